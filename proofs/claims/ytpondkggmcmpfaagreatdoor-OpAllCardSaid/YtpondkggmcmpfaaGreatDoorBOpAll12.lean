/- Joined by wip/tools/bundle.py out of: QAx23 QAx24 QAx25 QAx26 QAx27. -/
import Derived.Test.YtpondkggmcmpfaaGreatDoorBOpAll0
import Derived.Test.YtpondkggmcmpfaaGreatDoorBOpAll1
import Derived.Test.YtpondkggmcmpfaaGreatDoorBOpAll7
namespace Go.Proofs.YtpondkggmcmpfaaGreatDoor.QA
open Go.Proofs.YtpondkggmcmpfaaGreatDoor.T
open Go.RowKit Go.Proofs.YtpondkggmcmpfaaGreatDoorW.PrintWords Go.Proofs.YtpondkggmcmpfaaGreatDoorW.PrintLast Go.Proofs.YtpondkggmcmpfaaGreatDoorW.PrintMore
attribute [local go_sem] dZ dS dU fK fM
set_option linter.unusedVariables false
set_option linter.unusedSimpArgs false
def dL.l0:Nat→Int→Int→Int→Int→Int→Option (Int × Int)
 | 0,_,_,_,_,_=>none
 | k+1,x0,x1,x6,aln,alo=>if x6≥0 then ((dG.f aln alo 0).bind fun aiU=>(if 0≤x6 then (if (Go.bits .and .u64 (shr .u64 x1 x6) 1)=1 then ((gy.f aiU.1 aiU.2 0 x0).bind fun agn=>(dL.l0 k x0 x1 (wrap64 (x6 - 1)) agn.1 agn.2)) else (dL.l0 k x0 x1 (wrap64 (x6 - 1)) aiU.1 aiU.2)) else (none))) else (some (aln,alo))
def dL.f (k:Nat) (a0 a1:Int):Option (Int × Int):=dL.l0 k a0 a1 63 0 0
set_option maxHeartbeats 8000000 in
set_option maxRecDepth 100000 in
theorem dL.calls (k:Nat) (a0 a1 r1 r2:Int) (w:World) (h:dL.f k a0 a1=some (r1,r2)) :
  Calls Tryz.prog 148 #[.int .u64 a0,.int .u64 a1] w fun e w'=>e = .returned (.agg #[.int .u64 r1,.int .u64 r2])∧Below w.heap.size w w':=by
 have xC:=Tryz.underlying179
 have HB:=aj.mk (Below.refl w.heap.size w)
 have H:=h
 clear h
 unfold dL.f at H
 have H':=aj.mk H
 clear H
 go_enter Tryz.func148,Tryz.ntmps148
 go_wp2_with (first|((with_reducible refine bD (N:=4) rfl ?_);refine bC zR (N:=4) zR (cs := #[.int .u64 0,.int .u64 0]) (t:=179) zG ?_;intro aqh hg w3 hbox hb;obtain ⟨HB,rM,ax9,aya⟩:=zA4 (ak zB hb) hbox (zg hg zB) (zg hg zB);clear hb hbox hg)|((with_reducible refine bD (N:=5) rfl ?_);refine bC zR (N:=5) zR (cs := #[.int .u64 0,.int .u64 0]) (t:=179) zG ?_;intro aqi hg w4 hbox hb;obtain ⟨rM,HB,nS,ayb,ayc,abM,abN⟩:=zA7 (aA (zK rM) hb) (ak zB hb) hbox (zg hg zB) (zg hg zB) (zl hg (zK rM)) (zr hg (zK rM));clear hb hbox hg;have avA:=abN.out;have avC:=abM.out;obtain ⟨_,_⟩:=zC2 nS.out;obtain ⟨_,_⟩:=zF2 nS.out))
 go_loopg [6] k (fun kq v6 w'=>∃ (pI:Int) (pJ:Int) (oG:Int),v6 = .int .i64 pI∧aj (dL.l0 kq a0 a1 pI pJ oG=some (r1,r2))∧aj (kq≤k)∧aj (w'.heap[aqh]? = some (.cells #[.int .u64 0,.int .u64 0] 179 (0,0)))∧aj (w'.heap[aqi]? = some (.cells #[.int .u64 pJ,.int .u64 oG] 179 (0,0)))∧aj (Below w.heap.size w w'))
 case atStart=>exact ⟨(63),(0),(0),zT,H',⟨Nat.le_refl _⟩,⟨zK rM⟩,⟨by refine zD ?_;refine aW (cs := #[.int .u64 0,.int .u64 0]) ?_ 1 _ rfl;refine zD ?_;refine aW (cs := #[.int .u64 0,.int .u64 0]) ?_ 0 _ rfl;refine zD ?_;exact nS.out⟩,⟨zB⟩⟩
 case round =>
  clear H'
  obtain ⟨pI,pJ,oG,rfl,HA,HK1,rM,nS,HB⟩:=hrel
  cases gk with
  | zero=>exact absurd HA.out (by simp [dL.l0])
  | succ k1 =>
   have H:=HA.out
   clear HA
   simp only [dL.l0] at H
   by_cases c7:pI≥0
   ·rw [if_pos c7] at H
    have jc:=decide_eq_true c7
    clear c7
    replace H:=zO H
    obtain ⟨⟨abn,acd⟩,A8,H⟩:=H
    try dsimp only at H
    by_cases c9:0≤pI
    ·rw [if_pos c9] at H
     have pz:=eq_true c9
     have abe:=decide_eq_true c9
     clear c9
     obtain ⟨dB,jI⟩:∃ j_:Int,(shr .u64 a1 pI)=j_:=⟨_,rfl⟩
     replace H:(if (Go.bits .and .u64 (dB) 1)=1 then ((gy.f abn acd 0 a0).bind fun agn=>(dL.l0 k1 a0 a1 (wrap64 (pI - 1)) agn.1 agn.2)) else (dL.l0 k1 a0 a1 (wrap64 (pI - 1)) abn acd))=some (r1,r2):=by first|(rw [jI] at H;exact H)|(simp only [jI] at H ⊢;exact H)
     (try rw [jI] at A8)
     have ajP:(a1 / 2 ^ min pI.toNat 64)=dB:=jI
     have anJ:pI≤64→(a1 / 2 ^ pI.toNat)=dB:=o8 jI
     by_cases c11:(Go.bits .and .u64 (dB) 1)=1
     ·rw [if_pos c11] at H
      have iH:((Go.bits .and .u64 (dB) 1) == 1)=true:=beq_iff_eq.mpr c11
      have wF:((Go.bits .and .u64 (dB) 1) != 1)=false:=bne_eq_false_iff_eq.mpr c11
      clear c11
      replace H:=zO H
      obtain ⟨⟨aoy,ase⟩,A12,H⟩:=H
      try dsimp only at H
      have H':=aj.mk H
      clear H
      have al8:=abN.out
      have al9:=abM.out
      obtain ⟨_,_⟩:=zC2 nS.out
      obtain ⟨_,_⟩:=zF2 nS.out
      go_wp2_with (first|((with_reducible refine ay (f:=119) rfl ?_);refine aH (some 13) rfl rfl Tryz.func119 (by kernel_rfl) rfl #[.agg #[.int .u64 pJ,.int .u64 oG],.int .u64 0] rfl zL ?_;(with_reducible refine (dG.calls pJ oG 0 abn acd _ A8.out).mono ?_);rintro e w15 ⟨rfl,hb⟩;refine ⟨_,rfl,?_⟩;obtain ⟨rM,nS,HB⟩:=zA3 (aA (zK rM) hb) (aA (zK nS) hb) (ak zB hb);(try clear hb);obtain ⟨_,_⟩:=zC2 nS.out;obtain ⟨_,_⟩:=zF2 nS.out)|((with_reducible refine ay (f:=124) rfl ?_);refine aH (some 22) rfl rfl Tryz.func124 (by kernel_rfl) rfl #[.agg #[.int .u64 abn,.int .u64 acd],.agg #[.int .u64 0,.int .u64 a0]] rfl zL ?_;(with_reducible refine (gy.calls abn acd 0 a0 aoy ase _ A12.out).mono ?_);rintro e w17 ⟨rfl,hb⟩;refine ⟨_,rfl,?_⟩;obtain ⟨rM,nS,HB⟩:=zA3 (aA (zK rM) hb) (aA (g:=aqi) (o := .cells #[.int .u64 abn,.int .u64 acd] 179 (0,0)) (by refine zD ?_;refine aW (cs := #[.int .u64 abn,.int .u64 oG]) ?_ 1 _ rfl;refine zD ?_;refine aW (cs := #[.int .u64 pJ,.int .u64 oG]) ?_ 0 _ rfl;refine zD ?_;exact nS.out) hb) (ak zB hb);(try clear hb);obtain ⟨_,_⟩:=zC2 nS.out;obtain ⟨_,_⟩:=zF2 nS.out))
      go_roundg k1
      case measure=>have:=HK1.out;omega
      case rel=>exact ⟨(wrap64 (pI - 1)),(aoy),(ase),zT,H',⟨by have:=HK1.out;omega⟩,⟨zK rM⟩,⟨by refine zD ?_;refine aW (cs := #[.int .u64 aoy,.int .u64 acd]) ?_ 1 _ rfl;refine zD ?_;refine aW (cs := #[.int .u64 abn,.int .u64 acd]) ?_ 0 _ rfl;refine zD ?_;exact nS.out⟩,⟨zB⟩⟩
     ·rw [if_neg c11] at H
      have iH:((Go.bits .and .u64 (dB) 1) == 1)=false:=beq_eq_false_iff_ne.mpr c11
      have wF:((Go.bits .and .u64 (dB) 1) != 1)=true:=bne_iff_ne.mpr c11
      have H':=aj.mk H
      clear H
      have ayd:=abN.out
      have aye:=abM.out
      obtain ⟨_,_⟩:=zC2 nS.out
      obtain ⟨_,_⟩:=zF2 nS.out
      go_wp2_with (first|((with_reducible refine ay (f:=119) rfl ?_);refine aH (some 13) rfl rfl Tryz.func119 (by kernel_rfl) rfl #[.agg #[.int .u64 pJ,.int .u64 oG],.int .u64 0] rfl zL ?_;(with_reducible refine (dG.calls pJ oG 0 abn acd _ A8.out).mono ?_);rintro e w21 ⟨rfl,hb⟩;refine ⟨_,rfl,?_⟩;obtain ⟨rM,nS,HB⟩:=zA3 (aA (zK rM) hb) (aA (zK nS) hb) (ak zB hb);(try clear hb);obtain ⟨_,_⟩:=zC2 nS.out;obtain ⟨_,_⟩:=zF2 nS.out))
      go_roundg k1
      case measure=>have:=HK1.out;omega
      case rel=>exact ⟨(wrap64 (pI - 1)),(abn),(acd),zT,H',⟨by have:=HK1.out;omega⟩,⟨zK rM⟩,⟨by refine zD ?_;refine aW (cs := #[.int .u64 abn,.int .u64 oG]) ?_ 1 _ rfl;refine zD ?_;refine aW (cs := #[.int .u64 pJ,.int .u64 oG]) ?_ 0 _ rfl;refine zD ?_;exact nS.out⟩,⟨zB⟩⟩
    ·rw [if_neg c9] at H
     exact absurd H (by simp)
   ·rw [if_neg c7] at H
    have jc:=decide_eq_false c7
    clear c7
    simp only [Option.some.injEq,Prod.mk.injEq] at H
    obtain ⟨rfl,rfl⟩:=H
    have ama:=abN.out
    have amb:=abM.out
    obtain ⟨_,_⟩:=zC2 nS.out
    obtain ⟨_,_⟩:=zF2 nS.out
    obtain ⟨_,_⟩:=zC2 rM.out
    obtain ⟨_,_⟩:=zF2 rM.out
    go_wp2
    refine bodyPost_ret (results_cell_row rfl _ _ aqh 179 #[.int .u64 pJ,.int .u64 oG] (0,0) _ rfl (by refine zD ?_;refine aW (cs := #[.int .u64 pJ,.int .u64 0]) ?_ 1 _ rfl;refine zD ?_;refine aW (cs := #[.int .u64 0,.int .u64 0]) ?_ 0 _ rfl;refine zD ?_;exact rM.out) Tryz.underlying179 rfl (by kernel_rfl)) rfl ?_
    exact ⟨zS,zB⟩
def gU.f (bf bQ kY nV:Int):Option (Bool):=if bf=kY then (some (decide (bQ < nV))) else (some (decide (bf < kY)))
set_option maxHeartbeats 8000000 in
set_option maxRecDepth 100000 in
theorem gU.calls (bf bQ kY nV:Int) (r:Bool) (w:World) (h:gU.f bf bQ kY nV=some r) :
  Calls Tryz.prog 123 #[.agg #[.int .u64 bf,.int .u64 bQ],.agg #[.int .u64 kY,.int .u64 nV]] w fun e w'=>e = .returned (.bool r)∧Below w.heap.size w w':=by
 have xC:=Tryz.underlying179
 have HB:=aj.mk (Below.refl w.heap.size w)
 have H:=h
 clear h
 unfold gU.f at H
 by_cases c3:bf=kY
 ·rw [if_pos c3] at H
  have fP:(bf == kY)=true:=beq_iff_eq.mpr c3
  have xM:(bf != kY)=false:=bne_eq_false_iff_eq.mpr c3
  clear c3
  obtain rfl:=Option.some.inj H
  go_enter Tryz.func123,Tryz.ntmps123
  go_wp2_with (first|((with_reducible refine bD (N:=2) rfl ?_);refine bC zR (N:=2) zR (cs := #[.int .u64 bf,.int .u64 bQ]) (t:=179) zG ?_;intro atm hg w4 hbox hb;obtain ⟨HB,wK,atn,ato⟩:=zA4 (ak zB hb) hbox (zg hg zB) (zg hg zB);clear hb hbox hg)|((with_reducible refine bD (N:=3) rfl ?_);refine bC zR (N:=3) zR (cs := #[.int .u64 kY,.int .u64 nV]) (t:=179) zG ?_;intro atp hg w5 hbox hb;obtain ⟨wK,HB,agp,atq,atr,adJ,adK⟩:=zA7 (aA (zK wK) hb) (ak zB hb) hbox (zg hg zB) (zg hg zB) (zl hg (zK wK)) (zr hg (zK wK));clear hb hbox hg;have aAC:=adJ.out;have aAD:=adK.out;obtain ⟨_,_⟩:=zC2 wK.out;obtain ⟨_,_⟩:=zF2 wK.out;obtain ⟨_,_⟩:=zC2 agp.out;obtain ⟨_,_⟩:=zF2 agp.out))
  go_ret
  exact ⟨zS,zB⟩
 ·rw [if_neg c3] at H
  have fP:(bf == kY)=false:=beq_eq_false_iff_ne.mpr c3
  have xM:(bf != kY)=true:=bne_iff_ne.mpr c3
  obtain rfl:=Option.some.inj H
  go_enter Tryz.func123,Tryz.ntmps123
  go_wp2_with (first|((with_reducible refine bD (N:=2) rfl ?_);refine bC zR (N:=2) zR (cs := #[.int .u64 bf,.int .u64 bQ]) (t:=179) zG ?_;intro atm hg w9 hbox hb;obtain ⟨HB,wK,atn,ato⟩:=zA4 (ak zB hb) hbox (zg hg zB) (zg hg zB);clear hb hbox hg)|((with_reducible refine bD (N:=3) rfl ?_);refine bC zR (N:=3) zR (cs := #[.int .u64 kY,.int .u64 nV]) (t:=179) zG ?_;intro atp hg w10 hbox hb;obtain ⟨wK,HB,agp,atq,atr,adJ,adK⟩:=zA7 (aA (zK wK) hb) (ak zB hb) hbox (zg hg zB) (zg hg zB) (zl hg (zK wK)) (zr hg (zK wK));clear hb hbox hg;have att:=adJ.out;have atu:=adK.out;obtain ⟨_,_⟩:=zC2 wK.out;obtain ⟨_,_⟩:=zF2 wK.out;obtain ⟨_,_⟩:=zC2 agp.out;obtain ⟨_,_⟩:=zF2 agp.out))
  go_ret
  exact ⟨zS,zB⟩
def bT.j0:Nat→Bool→Int→Int→Option (Int)
 | 0,_,_,_=>none
 | k+1,x13,awP,arq=>if x13=true then (some (-9223372036854775808)) else (some (wrap64 (-(wrap64 (arq)))))
def bT.f (k:Nat) (bf bQ:Int) (a1:Bool):Option (Int):=if a1=true then (if bf > 0 then (bT.j0 k true bf bQ) else (bT.j0 k (decide (bQ > 9223372036854775807)) bf bQ)) else (if bf > 0 then (some 9223372036854775807) else (if bQ > 9223372036854775807 then (some 9223372036854775807) else (some (wrap64 (bQ)))))
set_option maxHeartbeats 8000000 in
set_option maxRecDepth 100000 in
theorem bT.calls (k:Nat) (bf bQ:Int) (a1:Bool) (r:Int) (w:World) (h:bT.f k bf bQ a1=some r) :
  Calls Tryz.prog 125 #[.agg #[.int .u64 bf,.int .u64 bQ],.bool a1] w fun e w'=>e = .returned (.int .i64 r)∧Below w.heap.size w w':=by
 have xC:=Tryz.underlying179
 have HB:=aj.mk (Below.refl w.heap.size w)
 have H:=h
 clear h
 unfold bT.f at H
 by_cases c3:a1=true
 ·subst c3
  rw [if_pos rfl] at H;try dsimp only at H
  have HC4:=aj.mk H
  clear H
  go_enter Tryz.func125,Tryz.ntmps125
  go_upto_region 2 with (first|((with_reducible refine bD (N:=2) rfl ?_);refine bC zR (N:=2) zR (cs := #[.int .u64 bf,.int .u64 bQ]) (t:=179) zG ?_;intro aiV hg w5 hbox hb;obtain ⟨HB,qU,amc,amd⟩:=zA4 (ak zB hb) hbox (zg hg zB) (zg hg zB);clear hb hbox hg))
  (try simp only [Act.put,List.setIfInBounds_toArray,List.set_cons_zero,List.set_cons_succ])
  go_cut [13] (fun v13 wc=>∃ (kq:Nat) (aiW:Bool),v13 = .bool aiW∧aj (bT.j0 kq aiW bf bQ=some r)∧aj (kq≤k)∧aj (wc.heap[aiV]? = some (.cells #[.int .u64 bf,.int .u64 bQ] 179 (0,0)))∧aj (Below w.heap.size w wc))
  case first =>
   have H:=HC4.out
   clear HC4
   by_cases c6:bf > 0
   ·rw [if_pos c6] at H
    have gQ:=decide_eq_true c6
    clear c6
    (first|rw [gQ]|(simp only [bY,cZ];rw [gQ])|skip)
    have H':=aj.mk H
    clear H
    obtain ⟨_,_⟩:=zC2 qU.out
    obtain ⟨_,_⟩:=zF2 qU.out
    go_wp2
    go_meet
    case rel=>exact ⟨_,(true),zT,H',⟨by first|omega|exact Nat.le_refl _⟩,⟨zK qU⟩,⟨zB⟩⟩
   ·rw [if_neg c6] at H
    have gQ:=decide_eq_false c6
    clear c6
    (first|rw [gQ]|(simp only [bY,cZ];rw [gQ])|skip)
    have H':=aj.mk H
    clear H
    obtain ⟨_,_⟩:=zC2 qU.out
    obtain ⟨_,_⟩:=zF2 qU.out
    go_wp2
    go_meet
    case rel=>exact ⟨_,(decide (bQ > 9223372036854775807)),zT,H',⟨by first|omega|exact Nat.le_refl _⟩,⟨zK qU⟩,⟨zB⟩⟩
  case rest =>
   clear HC4
   obtain ⟨kq,aiW,rfl,HA,HJ3,qU,HB⟩:=hcut
   cases kq with
   | zero=>exact absurd HA.out (by simp [bT.j0])
   | succ kj3 =>
    have H:=HA.out
    clear HA
    simp only [bT.j0] at H
    by_cases c9:aiW=true
    ·subst c9
     rw [if_pos rfl] at H;try dsimp only at H
     obtain rfl:=Option.some.inj H
     go_wp2
     go_ret
     exact ⟨zS,zB⟩
    ·replace c9:=Bool.eq_false_iff.mpr c9
     subst c9
     rw [if_neg (show ¬ (false=true) by decide)] at H;try dsimp only at H
     obtain rfl:=Option.some.inj H
     obtain ⟨_,_⟩:=zC2 qU.out
     obtain ⟨_,_⟩:=zF2 qU.out
     go_wp2
     go_ret
     exact ⟨zS,zB⟩
 ·replace c3:=Bool.eq_false_iff.mpr c3
  subst c3
  rw [if_neg (show ¬ (false=true) by decide)] at H;try dsimp only at H
  by_cases c11:bf > 0
  ·rw [if_pos c11] at H
   have iH:=decide_eq_true c11
   clear c11
   obtain rfl:=Option.some.inj H
   go_enter Tryz.func125,Tryz.ntmps125
   go_wp2_with (first|((with_reducible refine bD (N:=2) rfl ?_);refine bC zR (N:=2) zR (cs := #[.int .u64 bf,.int .u64 bQ]) (t:=179) zG ?_;intro aiV hg w12 hbox hb;obtain ⟨HB,qU,amc,amd⟩:=zA4 (ak zB hb) hbox (zg hg zB) (zg hg zB);clear hb hbox hg;obtain ⟨_,_⟩:=zC2 qU.out;obtain ⟨_,_⟩:=zF2 qU.out))
   go_ret
   exact ⟨zS,zB⟩
  ·rw [if_neg c11] at H
   have iH:=decide_eq_false c11
   clear c11
   by_cases c14:bQ > 9223372036854775807
   ·rw [if_pos c14] at H
    have abO:=decide_eq_true c14
    clear c14
    obtain rfl:=Option.some.inj H
    go_enter Tryz.func125,Tryz.ntmps125
    go_wp2_with (first|((with_reducible refine bD (N:=2) rfl ?_);refine bC zR (N:=2) zR (cs := #[.int .u64 bf,.int .u64 bQ]) (t:=179) zG ?_;intro aiV hg w15 hbox hb;obtain ⟨HB,qU,amc,amd⟩:=zA4 (ak zB hb) hbox (zg hg zB) (zg hg zB);clear hb hbox hg;obtain ⟨_,_⟩:=zC2 qU.out;obtain ⟨_,_⟩:=zF2 qU.out))
    go_ret
    exact ⟨zS,zB⟩
   ·rw [if_neg c14] at H
    have abO:=decide_eq_false c14
    clear c14
    obtain rfl:=Option.some.inj H
    go_enter Tryz.func125,Tryz.ntmps125
    go_wp2_with (first|((with_reducible refine bD (N:=2) rfl ?_);refine bC zR (N:=2) zR (cs := #[.int .u64 bf,.int .u64 bQ]) (t:=179) zG ?_;intro aiV hg w17 hbox hb;obtain ⟨HB,qU,amc,amd⟩:=zA4 (ak zB hb) hbox (zg hg zB) (zg hg zB);clear hb hbox hg;obtain ⟨_,_⟩:=zC2 qU.out;obtain ⟨_,_⟩:=zF2 qU.out))
    go_ret
    exact ⟨zS,zB⟩
def fA.f (bf bQ a1:Int):Option (Int):=if a1≥64 then (if 0≤(wrap64 (a1 - 64)) then (some (Go.bits .and .u64 (shr .u64 bf (wrap64 (a1 - 64))) 1)) else (none)) else (if 0≤a1 then (some (Go.bits .and .u64 (shr .u64 bQ a1) 1)) else (none))
set_option maxHeartbeats 8000000 in
set_option maxRecDepth 100000 in
theorem fA.calls (bf bQ a1 r:Int) (w:World) (h:fA.f bf bQ a1=some r) :
  Calls Tryz.prog 121 #[.agg #[.int .u64 bf,.int .u64 bQ],.int .i64 a1] w fun e w'=>e = .returned (.int .u64 r)∧Below w.heap.size w w':=by
 have xC:=Tryz.underlying179
 have HB:=aj.mk (Below.refl w.heap.size w)
 have H:=h
 clear h
 unfold fA.f at H
 by_cases c3:a1≥64
 ·rw [if_pos c3] at H
  have fP:=decide_eq_true c3
  clear c3
  obtain ⟨ji4,xO⟩:∃ j_:Int,(wrap64 (a1 - 64))=j_:=⟨_,rfl⟩
  replace H:(if 0≤(ji4) then (some (Go.bits .and .u64 (shr .u64 bf (ji4)) 1)) else (none))=some r:=by first|(rw [xO] at H;exact H)|(simp only [xO] at H ⊢;exact H)
  have ayf:(IntKind.i64.wrap (a1 - 64))=ji4:=(bY _).trans xO
  by_cases c5:0≤(ji4)
  ·rw [if_pos c5] at H
   have iw:=eq_true c5
   have abo:=decide_eq_true c5
   clear c5
   obtain ⟨ji6,wR⟩:∃ j_:Int,(shr .u64 bf (ji4))=j_:=⟨_,rfl⟩
   replace H:(some (Go.bits .and .u64 (ji6) 1))=some r:=by first|(rw [wR] at H;exact H)|(simp only [wR] at H ⊢;exact H)
   have atv:(bf / 2 ^ min (ji4).toNat 64)=ji6:=wR
   have atw:(ji4)≤64→(bf / 2 ^ (ji4).toNat)=ji6:=o8 wR
   obtain rfl:=Option.some.inj H
   go_enter Tryz.func121,Tryz.ntmps121
   go_wp2_with (first|((with_reducible refine bD (N:=2) rfl ?_);refine bC zR (N:=2) zR (cs := #[.int .u64 bf,.int .u64 bQ]) (t:=179) zG ?_;intro atx hg w7 hbox hb;obtain ⟨HB,agq,aty,atz⟩:=zA4 (ak zB hb) hbox (zg hg zB) (zg hg zB);clear hb hbox hg;obtain ⟨_,_⟩:=zC2 agq.out;obtain ⟨_,_⟩:=zF2 agq.out))
   go_ret
   exact ⟨by first|rfl|(simp [bK,bM] <;> rfl)|(simp only [← xO,← wR];first|rfl|(simp [bK,bM] <;> rfl))|(simp [*,bK,bM] <;> rfl),zB⟩
  ·rw [if_neg c5] at H
   exact absurd H (by simp)
 ·rw [if_neg c3] at H
  have fP:=decide_eq_false c3
  clear c3
  by_cases c9:0≤a1
  ·rw [if_pos c9] at H
   have pz:=eq_true c9
   have abe:=decide_eq_true c9
   clear c9
   obtain ⟨dB,jI⟩:∃ j_:Int,(shr .u64 bQ a1)=j_:=⟨_,rfl⟩
   replace H:(some (Go.bits .and .u64 (dB) 1))=some r:=by first|(rw [jI] at H;exact H)|(simp only [jI] at H ⊢;exact H)
   have ajP:(bQ / 2 ^ min a1.toNat 64)=dB:=jI
   have anJ:a1≤64→(bQ / 2 ^ a1.toNat)=dB:=o8 jI
   obtain rfl:=Option.some.inj H
   go_enter Tryz.func121,Tryz.ntmps121
   go_wp2_with (first|((with_reducible refine bD (N:=2) rfl ?_);refine bC zR (N:=2) zR (cs := #[.int .u64 bf,.int .u64 bQ]) (t:=179) zG ?_;intro atx hg w11 hbox hb;obtain ⟨HB,agq,aty,atz⟩:=zA4 (ak zB hb) hbox (zg hg zB) (zg hg zB);clear hb hbox hg;obtain ⟨_,_⟩:=zC2 agq.out;obtain ⟨_,_⟩:=zF2 agq.out))
   go_ret
   exact ⟨by first|rfl|(simp [bK,bM] <;> rfl)|(simp only [← jI];first|rfl|(simp [bK,bM] <;> rfl))|(simp [*,bK,bM] <;> rfl),zB⟩
  ·rw [if_neg c9] at H
   exact absurd H (by simp)
end Go.Proofs.YtpondkggmcmpfaaGreatDoor.QA
namespace Go.Proofs.YtpondkggmcmpfaaGreatDoor.QA
open Go.Proofs.YtpondkggmcmpfaaGreatDoor.T
open Go.RowKit Go.Proofs.YtpondkggmcmpfaaGreatDoorW.PrintWords Go.Proofs.YtpondkggmcmpfaaGreatDoorW.PrintLast Go.Proofs.YtpondkggmcmpfaaGreatDoorW.PrintMore
attribute [local go_sem] dZ dS dU fK fM
set_option linter.unusedVariables false
set_option linter.unusedSimpArgs false
def jS.f (bf bQ kY nV:Int):Option (Int × Int):=if bQ < nV then (some (IntKind.u64.wrap ((IntKind.u64.wrap (bf - kY)) - 1),IntKind.u64.wrap (bQ - nV))) else (some (IntKind.u64.wrap (bf - kY),IntKind.u64.wrap (bQ - nV)))
set_option maxHeartbeats 8000000 in
set_option maxRecDepth 100000 in
theorem jS.calls (bf bQ kY nV r1 r2:Int) (w:World) (h:jS.f bf bQ kY nV=some (r1,r2)) :
  Calls Tryz.prog 122 #[.agg #[.int .u64 bf,.int .u64 bQ],.agg #[.int .u64 kY,.int .u64 nV]] w fun e w'=>e = .returned (.agg #[.int .u64 r1,.int .u64 r2])∧Below w.heap.size w w':=by
 have xC:=Tryz.underlying179
 have HB:=aj.mk (Below.refl w.heap.size w)
 have H:=h
 clear h
 unfold jS.f at H
 by_cases c3:bQ < nV
 ·rw [if_pos c3] at H
  have fP:=decide_eq_true c3
  clear c3
  simp only [Option.some.injEq,Prod.mk.injEq] at H
  obtain ⟨rfl,rfl⟩:=H
  go_enter Tryz.func122,Tryz.ntmps122
  go_wp2_with (first|((with_reducible refine bD (N:=2) rfl ?_);refine bC zR (N:=2) zR (cs := #[.int .u64 bf,.int .u64 bQ]) (t:=179) zG ?_;intro atA hg w4 hbox hb;obtain ⟨HB,jT,atB,atC⟩:=zA4 (ak zB hb) hbox (zg hg zB) (zg hg zB);clear hb hbox hg)|((with_reducible refine bD (N:=3) rfl ?_);refine bC zR (N:=3) zR (cs := #[.int .u64 kY,.int .u64 nV]) (t:=179) zG ?_;intro atD hg w5 hbox hb;obtain ⟨jT,HB,mX,atE,atF,adL,adM⟩:=zA7 (aA (zK jT) hb) (ak zB hb) hbox (zg hg zB) (zg hg zB) (zl hg (zK jT)) (zr hg (zK jT));clear hb hbox hg)|((with_reducible refine bD (N:=4) rfl ?_);refine bC zR (N:=4) zR (cs := #[.int .u64 0,.int .u64 0]) (t:=179) zG ?_;intro ame hg w6 hbox hb;obtain ⟨jT,mX,HB,uF,atG,atH,adN,adO,adP,adQ⟩:=adA (aA (zK jT) hb) (aA (zK mX) hb) (ak zB hb) hbox (zg hg zB) (zg hg zB) (zl hg (zK jT)) (zr hg (zK jT)) (zl hg (zK mX)) (zr hg (zK mX));clear hb hbox hg;have asf:=adL.out;have asg:=adM.out;have ash:=adN.out;have asi:=adO.out;obtain ⟨_,_⟩:=zC2 jT.out;obtain ⟨_,_⟩:=zF2 jT.out;have atI:=adP.out;have atJ:=adQ.out;obtain ⟨_,_⟩:=zC2 mX.out;obtain ⟨_,_⟩:=zF2 mX.out)|((with_reducible refine bD (N:=5) rfl ?_);refine bC zR (N:=5) zR (cs := #[.int .u64 0,.int .u64 0]) (t:=179) zG ?_;intro atK hg w12 hbox hb;obtain ⟨jT,mX,uF,HB,agr,atL,atM,adR,adS,adT,adU,uf,adV⟩:=afl (aA (zK jT) hb) (aA (zK mX) hb) (aA (zK uF) hb) (ak zB hb) hbox (zg hg zB) (zg hg zB) (zl hg (zK jT)) (zr hg (zK jT)) (zl hg (zK mX)) (zr hg (zK mX)) (zl hg (zK uF)) (zr hg (zK uF));clear hb hbox hg;have al8:=adS.out;have al9:=adR.out;have aqj:=adU.out;have aqk:=adT.out;have atN:=adV.out;have atO:=uf.out;obtain ⟨_,_⟩:=zC2 agr.out;obtain ⟨_,_⟩:=zF2 agr.out;obtain ⟨_,_⟩:=zC2 jT.out;obtain ⟨_,_⟩:=zF2 jT.out;obtain ⟨_,_⟩:=zC2 mX.out;obtain ⟨_,_⟩:=zF2 mX.out;obtain ⟨_,_⟩:=zC2 uF.out;obtain ⟨_,_⟩:=zF2 uF.out))
  refine bodyPost_ret (results_cell_row rfl _ _ ame 179 #[.int .u64 (IntKind.u64.wrap ((IntKind.u64.wrap (bf - kY)) - 1)),.int .u64 (IntKind.u64.wrap (bQ - nV))] (0,0) _ rfl (by refine zD ?_;refine aW (cs := #[.int .u64 (IntKind.u64.wrap ((IntKind.u64.wrap (bf - kY)) - 1)),.int .u64 0]) ?_ 1 _ rfl;refine zD ?_;refine aW (cs := #[.int .u64 0,.int .u64 0]) ?_ 0 _ rfl;refine zD ?_;refine lN ?_ uf.out _;refine zD ?_;refine lN ?_ uf.out _;refine zD ?_;refine lN ?_ uf.out _;refine zD ?_;exact uF.out) Tryz.underlying179 rfl (by kernel_rfl)) rfl ?_
  exact ⟨zS,zB⟩
 ·rw [if_neg c3] at H
  have fP:=decide_eq_false c3
  clear c3
  simp only [Option.some.injEq,Prod.mk.injEq] at H
  obtain ⟨rfl,rfl⟩:=H
  go_enter Tryz.func122,Tryz.ntmps122
  go_wp2_with (first|((with_reducible refine bD (N:=2) rfl ?_);refine bC zR (N:=2) zR (cs := #[.int .u64 bf,.int .u64 bQ]) (t:=179) zG ?_;intro atA hg w20 hbox hb;obtain ⟨HB,jT,atB,atC⟩:=zA4 (ak zB hb) hbox (zg hg zB) (zg hg zB);clear hb hbox hg)|((with_reducible refine bD (N:=3) rfl ?_);refine bC zR (N:=3) zR (cs := #[.int .u64 kY,.int .u64 nV]) (t:=179) zG ?_;intro atD hg w21 hbox hb;obtain ⟨jT,HB,mX,atE,atF,adL,adM⟩:=zA7 (aA (zK jT) hb) (ak zB hb) hbox (zg hg zB) (zg hg zB) (zl hg (zK jT)) (zr hg (zK jT));clear hb hbox hg)|((with_reducible refine bD (N:=4) rfl ?_);refine bC zR (N:=4) zR (cs := #[.int .u64 0,.int .u64 0]) (t:=179) zG ?_;intro ame hg w22 hbox hb;obtain ⟨jT,mX,HB,uF,atG,atH,adN,adO,adP,adQ⟩:=adA (aA (zK jT) hb) (aA (zK mX) hb) (ak zB hb) hbox (zg hg zB) (zg hg zB) (zl hg (zK jT)) (zr hg (zK jT)) (zl hg (zK mX)) (zr hg (zK mX));clear hb hbox hg;have ama:=adL.out;have amb:=adM.out;have ayg:=adN.out;have ayh:=adO.out;obtain ⟨_,_⟩:=zC2 jT.out;obtain ⟨_,_⟩:=zF2 jT.out;have atP:=adP.out;have atQ:=adQ.out;obtain ⟨_,_⟩:=zC2 mX.out;obtain ⟨_,_⟩:=zF2 mX.out)|((with_reducible refine bD (N:=5) rfl ?_);refine bC zR (N:=5) zR (cs := #[.int .u64 0,.int .u64 0]) (t:=179) zG ?_;intro atK hg w28 hbox hb;obtain ⟨jT,mX,uF,HB,agr,atL,atM,adR,adS,adT,adU,uf,adV⟩:=afl (aA (zK jT) hb) (aA (zK mX) hb) (aA (zK uF) hb) (ak zB hb) hbox (zg hg zB) (zg hg zB) (zl hg (zK jT)) (zr hg (zK jT)) (zl hg (zK mX)) (zr hg (zK mX)) (zl hg (zK uF)) (zr hg (zK uF));clear hb hbox hg;have amf:=adS.out;have amg:=adR.out;have aql:=adU.out;have aqm:=adT.out;have ayi:=adV.out;have ayj:=uf.out;obtain ⟨_,_⟩:=zC2 agr.out;obtain ⟨_,_⟩:=zF2 agr.out;obtain ⟨_,_⟩:=zC2 jT.out;obtain ⟨_,_⟩:=zF2 jT.out;obtain ⟨_,_⟩:=zC2 mX.out;obtain ⟨_,_⟩:=zF2 mX.out;obtain ⟨_,_⟩:=zC2 uF.out;obtain ⟨_,_⟩:=zF2 uF.out))
  refine bodyPost_ret (results_cell_row rfl _ _ ame 179 #[.int .u64 (IntKind.u64.wrap (bf - kY)),.int .u64 (IntKind.u64.wrap (bQ - nV))] (0,0) _ rfl (by refine zD ?_;refine aW (cs := #[.int .u64 (IntKind.u64.wrap (bf - kY)),.int .u64 0]) ?_ 1 _ rfl;refine zD ?_;refine aW (cs := #[.int .u64 0,.int .u64 0]) ?_ 0 _ rfl;refine zD ?_;refine lN ?_ uf.out _;refine zD ?_;refine lN ?_ uf.out _;refine zD ?_;exact uF.out) Tryz.underlying179 rfl (by kernel_rfl)) rfl ?_
  exact ⟨zS,zB⟩
end Go.Proofs.YtpondkggmcmpfaaGreatDoor.QA
namespace Go.Proofs.YtpondkggmcmpfaaGreatDoor.QA
open Go.Proofs.YtpondkggmcmpfaaGreatDoor.T
open Go.RowKit Go.Proofs.YtpondkggmcmpfaaGreatDoorW.PrintWords Go.Proofs.YtpondkggmcmpfaaGreatDoorW.PrintLast Go.Proofs.YtpondkggmcmpfaaGreatDoorW.PrintMore
attribute [local go_sem] dZ dS dU fK fM
set_option linter.unusedVariables false
set_option linter.unusedSimpArgs false
def eG.l0:Nat→Int→Int→Int→Int→Int→Int→Int→Int→Option (Int × Int × Int)
 | 0,_,_,_,_,_,_,_,_=>none
 | k+1,x1,x8,ahs,aht,alp,alq,ars,alr=>if x8≥0 then ((fA.f ahs aht x8).bind fun adW=>((dG.f ars alr adW).bind fun aeN=>((dG.f alp alq 0).bind fun aiX=>((gU.f aeN.1 aeN.2 0 x1).bind fun aoz=>(if aoz=true then (eG.l0 k x1 (wrap64 (x8 - 1)) ahs aht aiX.1 aiX.2 aeN.1 aeN.2) else ((jS.f aeN.1 aeN.2 0 x1).bind fun aqn=>(eG.l0 k x1 (wrap64 (x8 - 1)) ahs aht aiX.1 (IntKind.u64.wrap (aiX.2+1)) aqn.1 aqn.2))))))) else (some (alp,alq,alr))
def eG.f (k:Nat) (bf bQ a1:Int):Option (Int × Int × Int):=if a1=0 then (some (0,0,0)) else (eG.l0 k a1 127 bf bQ 0 0 0 0)
set_option maxHeartbeats 8000000 in
set_option maxRecDepth 100000 in
theorem eG.calls (k:Nat) (bf bQ a1 r1 r2 r3:Int) (w:World) (h:eG.f k bf bQ a1=some (r1,r2,r3)) :
  Calls Tryz.prog 172 #[.agg #[.int .u64 bf,.int .u64 bQ],.int .u64 a1] w fun e w'=>e = .returned (.tuple #[.agg #[.int .u64 r1,.int .u64 r2],.int .u64 r3])∧Below w.heap.size w w':=by
 have xC:=Tryz.underlying179
 have HB:=aj.mk (Below.refl w.heap.size w)
 have H:=h
 clear h
 unfold eG.f at H
 by_cases c3:a1=0
 ·rw [if_pos c3] at H
  have fP:(a1 == 0)=true:=beq_iff_eq.mpr c3
  have xM:(a1 != 0)=false:=bne_eq_false_iff_eq.mpr c3
  clear c3
  simp only [Option.some.injEq,Prod.mk.injEq] at H
  obtain ⟨rfl,rfl,rfl⟩:=H
  go_enter Tryz.func172,Tryz.ntmps172
  go_wp2_with (first|((with_reducible refine bD (N:=2) rfl ?_);refine bC zR (N:=2) zR (cs := #[.int .u64 bf,.int .u64 bQ]) (t:=179) zG ?_;intro aeO hg w4 hbox hb;obtain ⟨HB,dX,atS,atT⟩:=zA4 (ak zB hb) hbox (zg hg zB) (zg hg zB);clear hb hbox hg)|((with_reducible refine bD (N:=4) rfl ?_);refine bC zR (N:=4) zR (cs := #[.int .u64 0,.int .u64 0]) (t:=179) zG ?_;intro vJ hg w5 hbox hb;obtain ⟨dX,HB,gG,atU,atV,abP,abQ⟩:=zA7 (aA (zK dX) hb) (ak zB hb) hbox (zg hg zB) (zg hg zB) (zl hg (zK dX)) (zr hg (zK dX));clear hb hbox hg)|((with_reducible refine bD (N:=6) rfl ?_);refine bC zR (N:=6) zR (cs := #[.int .u64 0,.int .u64 0]) (t:=179) zG ?_;intro sO hg w6 hbox hb;obtain ⟨dX,gG,HB,fV,atW,atX,aas,aat,vY,pK⟩:=adA (aA (zK dX) hb) (aA (zK gG) hb) (ak zB hb) hbox (zg hg zB) (zg hg zB) (zl hg (zK dX)) (zr hg (zK dX)) (zl hg (zK gG)) (zr hg (zK gG));clear hb hbox hg;have asf:=aat.out;have asg:=aas.out;have ash:=pK.out;have asi:=vY.out;obtain ⟨_,_⟩:=zC2 fV.out;obtain ⟨_,_⟩:=zF2 fV.out)|((with_reducible refine bD (N:=7) rfl ?_);refine bC zR (N:=7) zR (cs := #[.int .u64 0,.int .u64 0]) (t:=179) zG ?_;intro qW hg w10 hbox hb;obtain ⟨dX,gG,fV,HB,eP,atY,atZ,rO,rP,nM,lG,pO,qC⟩:=afl (aA (zK dX) hb) (aA (zK gG) hb) (aA (g:=sO) (o := .cells #[.int .u64 0,.int .u64 0] 179 (0,0)) (by refine zD ?_;refine aW (cs := #[.int .u64 0,.int .u64 0]) ?_ 1 _ rfl;refine zD ?_;refine aW (cs := #[.int .u64 0,.int .u64 0]) ?_ 0 _ rfl;refine zD ?_;exact fV.out) hb) (ak zB hb) hbox (zg hg zB) (zg hg zB) (zl hg (zK dX)) (zr hg (zK dX)) (zl hg (zK gG)) (zr hg (zK gG)) ((by rw [hg];exact Nat.ne_of_lt (eF (g:=sO) (o := .cells #[.int .u64 0,.int .u64 0] 179 (0,0)) (by refine zD ?_;refine aW (cs := #[.int .u64 0,.int .u64 0]) ?_ 1 _ rfl;refine zD ?_;refine aW (cs := #[.int .u64 0,.int .u64 0]) ?_ 0 _ rfl;refine zD ?_;exact fV.out)):sO≠qW)) ((by rw [hg];exact Nat.ne_of_gt (eF (g:=sO) (o := .cells #[.int .u64 0,.int .u64 0] 179 (0,0)) (by refine zD ?_;refine aW (cs := #[.int .u64 0,.int .u64 0]) ?_ 1 _ rfl;refine zD ?_;refine aW (cs := #[.int .u64 0,.int .u64 0]) ?_ 0 _ rfl;refine zD ?_;exact fV.out)):qW≠sO));clear hb hbox hg;have att:=rP.out;have atu:=rO.out;have at1:=lG.out;have at6:=nM.out;have al8:=qC.out;have al9:=pO.out;obtain ⟨_,_⟩:=zC2 eP.out;obtain ⟨_,_⟩:=zF2 eP.out;obtain ⟨_,_⟩:=zC2 fV.out;obtain ⟨_,_⟩:=zF2 fV.out;have at7:=abQ.out;have aua:=abP.out;obtain ⟨_,_⟩:=zC2 gG.out;obtain ⟨_,_⟩:=zF2 gG.out))
  refine bodyPost_ret (af7 rfl _ _ vJ 179 #[.int .u64 0,.int .u64 0] (0,0) _ rfl (by refine zD ?_;refine aW (cs := #[.int .u64 0,.int .u64 0]) ?_ 1 _ rfl;refine zD ?_;refine aW (cs := #[.int .u64 0,.int .u64 0]) ?_ 0 _ rfl;refine zD ?_;refine lN ?_ nM.out _;refine zD ?_;refine lN ?_ nM.out _;refine zD ?_;exact gG.out) Tryz.underlying179 rfl (by kernel_rfl)) rfl ?_
  exact ⟨zS,zB⟩
 ·rw [if_neg c3] at H
  have fP:(a1 == 0)=false:=beq_eq_false_iff_ne.mpr c3
  have xM:(a1 != 0)=true:=bne_iff_ne.mpr c3
  have H':=aj.mk H
  clear H
  go_enter Tryz.func172,Tryz.ntmps172
  go_wp2_with (first|((with_reducible refine bD (N:=2) rfl ?_);refine bC zR (N:=2) zR (cs := #[.int .u64 bf,.int .u64 bQ]) (t:=179) zG ?_;intro aeO hg w18 hbox hb;obtain ⟨HB,dX,atS,atT⟩:=zA4 (ak zB hb) hbox (zg hg zB) (zg hg zB);clear hb hbox hg)|((with_reducible refine bD (N:=4) rfl ?_);refine bC zR (N:=4) zR (cs := #[.int .u64 0,.int .u64 0]) (t:=179) zG ?_;intro vJ hg w19 hbox hb;obtain ⟨dX,HB,gG,atU,atV,abP,abQ⟩:=zA7 (aA (zK dX) hb) (ak zB hb) hbox (zg hg zB) (zg hg zB) (zl hg (zK dX)) (zr hg (zK dX));clear hb hbox hg)|((with_reducible refine bD (N:=6) rfl ?_);refine bC zR (N:=6) zR (cs := #[.int .u64 0,.int .u64 0]) (t:=179) zG ?_;intro sO hg w20 hbox hb;obtain ⟨dX,gG,HB,fV,atW,atX,aas,aat,vY,pK⟩:=adA (aA (zK dX) hb) (aA (zK gG) hb) (ak zB hb) hbox (zg hg zB) (zg hg zB) (zl hg (zK dX)) (zr hg (zK dX)) (zl hg (zK gG)) (zr hg (zK gG));clear hb hbox hg;have ayk:=aat.out;have ayl:=aas.out;have aqo:=pK.out;have aqp:=vY.out;obtain ⟨_,_⟩:=zC2 fV.out;obtain ⟨_,_⟩:=zF2 fV.out)|((with_reducible refine bD (N:=7) rfl ?_);refine bC zR (N:=7) zR (cs := #[.int .u64 0,.int .u64 0]) (t:=179) zG ?_;intro qW hg w24 hbox hb;obtain ⟨dX,gG,fV,HB,eP,atY,atZ,rO,rP,nM,lG,pO,qC⟩:=afl (aA (zK dX) hb) (aA (zK gG) hb) (aA (g:=sO) (o := .cells #[.int .u64 0,.int .u64 0] 179 (0,0)) (by refine zD ?_;refine aW (cs := #[.int .u64 0,.int .u64 0]) ?_ 1 _ rfl;refine zD ?_;refine aW (cs := #[.int .u64 0,.int .u64 0]) ?_ 0 _ rfl;refine zD ?_;exact fV.out) hb) (ak zB hb) hbox (zg hg zB) (zg hg zB) (zl hg (zK dX)) (zr hg (zK dX)) (zl hg (zK gG)) (zr hg (zK gG)) ((by rw [hg];exact Nat.ne_of_lt (eF (g:=sO) (o := .cells #[.int .u64 0,.int .u64 0] 179 (0,0)) (by refine zD ?_;refine aW (cs := #[.int .u64 0,.int .u64 0]) ?_ 1 _ rfl;refine zD ?_;refine aW (cs := #[.int .u64 0,.int .u64 0]) ?_ 0 _ rfl;refine zD ?_;exact fV.out)):sO≠qW)) ((by rw [hg];exact Nat.ne_of_gt (eF (g:=sO) (o := .cells #[.int .u64 0,.int .u64 0] 179 (0,0)) (by refine zD ?_;refine aW (cs := #[.int .u64 0,.int .u64 0]) ?_ 1 _ rfl;refine zD ?_;refine aW (cs := #[.int .u64 0,.int .u64 0]) ?_ 0 _ rfl;refine zD ?_;exact fV.out)):qW≠sO));clear hb hbox hg;have aub:=rP.out;have auc:=rO.out;have atP:=lG.out;have atQ:=nM.out;have aym:=qC.out;have ayn:=pO.out;obtain ⟨_,_⟩:=zC2 eP.out;obtain ⟨_,_⟩:=zF2 eP.out))
  go_loopg [8] k (fun kq v8 w'=>∃ (gK:Int) (oH:Int) (nN:Int) (mJ:Int) (kT:Int),v8 = .int .i64 gK∧aj (eG.l0 kq a1 gK bf bQ oH nN mJ kT=some (r1,r2,r3))∧aj (kq≤k)∧aj (w'.heap[aeO]? = some (.cells #[.int .u64 bf,.int .u64 bQ] 179 (0,0)))∧aj (w'.heap[vJ]? = some (.cells #[.int .u64 0,.int .u64 0] 179 (0,0)))∧aj (w'.heap[sO]? = some (.cells #[.int .u64 oH,.int .u64 nN] 179 (0,0)))∧aj (w'.heap[qW]? = some (.cells #[.int .u64 mJ,.int .u64 kT] 179 (0,0)))∧aj (Below w.heap.size w w'))
  case atStart=>exact ⟨(127),(0),(0),(0),(0),zT,H',⟨Nat.le_refl _⟩,⟨zK dX⟩,⟨zK gG⟩,⟨zK fV⟩,⟨by refine zD ?_;refine aW (cs := #[.int .u64 0,.int .u64 0]) ?_ 1 _ rfl;refine zD ?_;refine aW (cs := #[.int .u64 0,.int .u64 0]) ?_ 0 _ rfl;refine zD ?_;exact eP.out⟩,⟨zB⟩⟩
  case round =>
   clear H'
   obtain ⟨gK,oH,nN,mJ,kT,rfl,HA,HK1,dX,gG,fV,eP,HB⟩:=hrel
   cases gk with
   | zero=>exact absurd HA.out (by simp [eG.l0])
   | succ k1 =>
    have H:=HA.out
    clear HA
    simp only [eG.l0] at H
    by_cases c29:gK≥0
    ·rw [if_pos c29] at H
     have amh:=decide_eq_true c29
     clear c29
     replace H:=zO H
     obtain ⟨adW,A30,H⟩:=H
     try dsimp only at H
     replace H:=zO H
     obtain ⟨⟨yK,zJ⟩,A31,H⟩:=H
     try dsimp only at H
     replace H:=zO H
     obtain ⟨⟨acX,afA⟩,A32,H⟩:=H
     try dsimp only at H
     replace H:=zO H
     obtain ⟨aoz,A33,H⟩:=H
     try dsimp only at H
     by_cases c34:aoz=true
     ·subst c34
      rw [if_pos rfl] at H;try dsimp only at H
      have H':=aj.mk H
      clear H
      try go_wp2
      obtain ⟨dX,gG,fV,eP,HB⟩:=zA5 (jY dX.out) (jY gG.out) (jY fV.out) (jY eP.out) (dA HB.out)
      refine acs (n:=6) (S:=fun w'=>w'.cell? ⟨qW,0,none⟩=some (.int .u64 mJ)∧w'.cell? ⟨qW,1,none⟩=some (.int .u64 kT)∧w'.cell? ⟨aeO,0,none⟩=some (.int .u64 bf)∧w'.cell? ⟨aeO,1,none⟩=some (.int .u64 bQ)) (ds:=[5]) #[false,false,false,false,false,false] (by kernel_rfl) rfl rfl ⟨(au eP.out 0).trans rfl,(au eP.out 1).trans rfl,(au dX.out 0).trans rfl,(au dX.out 1).trans rfl⟩ (fun hHeld => ?_)
      generalize wr.drew=w35 at dX gG fV eP HB hHeld ⊢
      refine xw (i:=2) (N:=some 20) (v := ?_) (a' := ?_) #[false,false,true,false,false,false] rfl rfl (by kernel_rfl) (fun _ _ _ h=>h) (Or.inl ⟨by rfl,?_⟩) ?_ ?_
      rotate_left
      ·intro w'
       go_simp
       with_reducible rfl
      rotate_left
      ·simp only [Act.put,List.setIfInBounds_toArray,List.set_cons_zero,List.set_cons_succ,bY,cZ]
       rfl
      refine yw (i:=0) (N:=some 18) (v := ?_) (a' := ?_) #[true,false,true,false,false,false] rfl rfl (by kernel_rfl) (fun _ _ _ h=>h) (Or.inl ⟨by rfl,?_⟩) hHeld ?_ ?_
      rotate_left
      ·rintro w' ⟨s0,s1,s2,s3⟩
       go_simp
       with_reducible rfl
      rotate_left
      ·simp only [Act.put,List.setIfInBounds_toArray,List.set_cons_zero,List.set_cons_succ,bY,cZ]
       rfl
      refine yw (i:=1) (N:=some 19) (v := ?_) (a' := ?_) #[true,true,true,false,false,false] rfl rfl (by kernel_rfl) (fun _ _ _ h=>h) (Or.inl ⟨by rfl,?_⟩) hHeld ?_ ?_
      rotate_left
      ·rintro w' ⟨s0,s1,s2,s3⟩
       go_simp
       with_reducible rfl
      rotate_left
      ·simp only [Act.put,List.setIfInBounds_toArray,List.set_cons_zero,List.set_cons_succ,bY,cZ]
       rfl
      refine aa7 (i:=3) (N:=some 21) #[true,true,true,true,false,false] rfl rfl (by kernel_rfl) (by decide) (fun K hK => ?_)
      refine aaf Tryz.func121 (by kernel_rfl) rfl #[.agg #[.int .u64 bf,.int .u64 bQ],.int .i64 gK] (by rfl) rfl rfl zL ?_
      with_reducible refine (fA.calls bf bQ gK adW _ A30.out).mono ?_
      rintro e w36 ⟨rfl,hb⟩
      refine ⟨_,rfl,?_⟩
      obtain ⟨dX,gG,fV,eP,HB⟩:=zA5 (aA (zK dX) hb) (aA (zK gG) hb) (aA (zK fV) hb) (aA (zK eP) hb) (ak zB hb)
      (try clear hb)
      (try clear hb2)
      (try clear hk)
      (try clear hi)
      refine hK.out _ _ ⟨(au eP.out 0).trans rfl,(au eP.out 1).trans rfl,(au dX.out 0).trans rfl,(au dX.out 1).trans rfl⟩ (fun hHeld => ?_)
      clear hK K
      refine aae (a' := ?_) ?_ ?_
      rotate_left
      ·show Act.put _ (some 21) _=_
       simp only [Act.put,List.setIfInBounds_toArray,List.set_cons_zero,List.set_cons_succ,bY,cZ]
       rfl
      refine aa7 (i:=4) (N:=some 22) #[true,true,true,true,true,false] rfl rfl (by kernel_rfl) (by decide) (fun K hK => ?_)
      refine aaf Tryz.func119 (by kernel_rfl) rfl #[.agg #[.int .u64 mJ,.int .u64 kT],.int .u64 adW] (by rfl) rfl rfl zL ?_
      with_reducible refine (dG.calls mJ kT adW yK zJ _ A31.out).mono ?_
      rintro e w37 ⟨rfl,hb⟩
      refine ⟨_,rfl,?_⟩
      obtain ⟨dX,gG,fV,eP,HB⟩:=zA5 (aA (zK dX) hb) (aA (zK gG) hb) (aA (zK fV) hb) (aA (zK eP) hb) (ak zB hb)
      (try clear hb)
      (try clear hb2)
      (try clear hk)
      (try clear hi)
      refine hK.out _ _ ⟨(au eP.out 0).trans rfl,(au eP.out 1).trans rfl,(au dX.out 0).trans rfl,(au dX.out 1).trans rfl⟩ (fun hHeld => ?_)
      clear hK K
      refine aae (a' := ?_) ?_ ?_
      rotate_left
      ·show Act.put _ (some 22) _=_
       simp only [Act.put,List.setIfInBounds_toArray,List.set_cons_zero,List.set_cons_succ,bY,cZ]
       rfl
      refine aiP (i:=5) (N:=none) #[true,true,true,true,true,true] rfl rfl (by kernel_rfl) (by decide) (fun K hK => ?_)
      have aAE:w37.cell? ⟨qW,0,none⟩=some (.int .u64 mJ):=(au eP.out 0).trans rfl
      have ayo:=bg eP.out 0
      have awQ:=rO.out
      have awR:=nM.out
      have awS:=pO.out
      have awT:=rP.out
      have awU:=lG.out
      have awV:=qC.out
      have aAF:w37.cell? ⟨qW,1,none⟩=some (.int .u64 kT):=(au eP.out 1).trans rfl
      have ayp:=bg eP.out 1
      have awW:=rO.out
      have awX:=nM.out
      have awY:=pO.out
      have awZ:=rP.out
      have aw0:=lG.out
      have aw1:=qC.out
      refine af6 (w1 := ?_) (by rfl) rfl ?_ ?_
      rotate_left
      ·go_simp
       rfl
      refine hK.out _ _ ?_
      clear hK K
      refine aeD (by kernel_rfl) ?_
      have aqr:=aat.out
      have aqs:=aas.out
      have aud:=pK.out
      have aue:=vY.out
      have ayq:=pO.out
      have ayr:=qC.out
      obtain ⟨_,_⟩:=zC2 fV.out
      obtain ⟨_,_⟩:=zF2 fV.out
      try go_wp2_with (first|((with_reducible refine ay (f:=119) rfl ?_);refine aH (some 24) rfl rfl Tryz.func119 (by kernel_rfl) rfl #[.agg #[.int .u64 oH,.int .u64 nN],.int .u64 0] rfl zL ?_;(with_reducible refine (dG.calls oH nN 0 acX afA _ A32.out).mono ?_);rintro e w44 ⟨rfl,hb⟩;refine ⟨_,rfl,?_⟩;obtain ⟨dX,gG,fV,eP,HB⟩:=zA5 (aA (zK dX) hb) (aA (zK gG) hb) (aA (zK fV) hb) (aA (g:=qW) (o := .cells #[.int .u64 yK,.int .u64 zJ] 179 (0,0)) (by refine zD ?_;refine aW (cs := #[.int .u64 yK,.int .u64 kT]) ?_ 1 _ rfl;refine zD ?_;refine aW (cs := #[.int .u64 mJ,.int .u64 kT]) ?_ 0 _ rfl;refine zD ?_;exact eP.out) hb) (ak zB hb);(try clear hb);obtain ⟨_,_⟩:=zC2 fV.out;obtain ⟨_,_⟩:=zF2 fV.out;have aqt:=rP.out;have aqu:=rO.out;have auf:=lG.out;have aug:=nM.out;obtain ⟨_,_⟩:=zC2 eP.out;obtain ⟨_,_⟩:=zF2 eP.out)|((with_reducible refine ay (f:=123) rfl ?_);refine aH (some 28) rfl rfl Tryz.func123 (by kernel_rfl) rfl #[.agg #[.int .u64 yK,.int .u64 zJ],.agg #[.int .u64 0,.int .u64 a1]] rfl zL ?_;(with_reducible refine (gU.calls yK zJ 0 a1 true _ A33.out).mono ?_);rintro e w49 ⟨rfl,hb⟩;refine ⟨_,rfl,?_⟩;obtain ⟨dX,gG,fV,eP,HB⟩:=zA5 (aA (zK dX) hb) (aA (zK gG) hb) (aA (g:=sO) (o := .cells #[.int .u64 acX,.int .u64 afA] 179 (0,0)) (by refine zD ?_;refine aW (cs := #[.int .u64 acX,.int .u64 nN]) ?_ 1 _ rfl;refine zD ?_;refine aW (cs := #[.int .u64 oH,.int .u64 nN]) ?_ 0 _ rfl;refine zD ?_;exact fV.out) hb) (aA (zK eP) hb) (ak zB hb);(try clear hb)))
      go_roundg k1
      case measure=>have:=HK1.out;omega
      case rel=>exact ⟨(wrap64 (gK - 1)),(acX),(afA),(yK),(zJ),zT,H',⟨by have:=HK1.out;omega⟩,⟨zK dX⟩,⟨zK gG⟩,⟨zK fV⟩,⟨zK eP⟩,⟨zB⟩⟩
     ·replace c34:=Bool.eq_false_iff.mpr c34
      subst c34
      rw [if_neg (show ¬ (false=true) by decide)] at H;try dsimp only at H
      replace H:=zO H
      obtain ⟨⟨aoA,asj⟩,A50,H⟩:=H
      try dsimp only at H
      have H':=aj.mk H
      clear H
      try go_wp2
      obtain ⟨dX,gG,fV,eP,HB⟩:=zA5 (jY dX.out) (jY gG.out) (jY fV.out) (jY eP.out) (dA HB.out)
      refine acs (n:=6) (S:=fun w'=>w'.cell? ⟨qW,0,none⟩=some (.int .u64 mJ)∧w'.cell? ⟨qW,1,none⟩=some (.int .u64 kT)∧w'.cell? ⟨aeO,0,none⟩=some (.int .u64 bf)∧w'.cell? ⟨aeO,1,none⟩=some (.int .u64 bQ)) (ds:=[5]) #[false,false,false,false,false,false] (by kernel_rfl) rfl rfl ⟨(au eP.out 0).trans rfl,(au eP.out 1).trans rfl,(au dX.out 0).trans rfl,(au dX.out 1).trans rfl⟩ (fun hHeld => ?_)
      generalize wr.drew=w51 at dX gG fV eP HB hHeld ⊢
      refine xw (i:=2) (N:=some 20) (v := ?_) (a' := ?_) #[false,false,true,false,false,false] rfl rfl (by kernel_rfl) (fun _ _ _ h=>h) (Or.inl ⟨by rfl,?_⟩) ?_ ?_
      rotate_left
      ·intro w'
       go_simp
       with_reducible rfl
      rotate_left
      ·simp only [Act.put,List.setIfInBounds_toArray,List.set_cons_zero,List.set_cons_succ,bY,cZ]
       rfl
      refine yw (i:=0) (N:=some 18) (v := ?_) (a' := ?_) #[true,false,true,false,false,false] rfl rfl (by kernel_rfl) (fun _ _ _ h=>h) (Or.inl ⟨by rfl,?_⟩) hHeld ?_ ?_
      rotate_left
      ·rintro w' ⟨s0,s1,s2,s3⟩
       go_simp
       with_reducible rfl
      rotate_left
      ·simp only [Act.put,List.setIfInBounds_toArray,List.set_cons_zero,List.set_cons_succ,bY,cZ]
       rfl
      refine yw (i:=1) (N:=some 19) (v := ?_) (a' := ?_) #[true,true,true,false,false,false] rfl rfl (by kernel_rfl) (fun _ _ _ h=>h) (Or.inl ⟨by rfl,?_⟩) hHeld ?_ ?_
      rotate_left
      ·rintro w' ⟨s0,s1,s2,s3⟩
       go_simp
       with_reducible rfl
      rotate_left
      ·simp only [Act.put,List.setIfInBounds_toArray,List.set_cons_zero,List.set_cons_succ,bY,cZ]
       rfl
      refine aa7 (i:=3) (N:=some 21) #[true,true,true,true,false,false] rfl rfl (by kernel_rfl) (by decide) (fun K hK => ?_)
      refine aaf Tryz.func121 (by kernel_rfl) rfl #[.agg #[.int .u64 bf,.int .u64 bQ],.int .i64 gK] (by rfl) rfl rfl zL ?_
      with_reducible refine (fA.calls bf bQ gK adW _ A30.out).mono ?_
      rintro e w52 ⟨rfl,hb⟩
      refine ⟨_,rfl,?_⟩
      obtain ⟨dX,gG,fV,eP,HB⟩:=zA5 (aA (zK dX) hb) (aA (zK gG) hb) (aA (zK fV) hb) (aA (zK eP) hb) (ak zB hb)
      (try clear hb)
      (try clear hb2)
      (try clear hk)
      (try clear hi)
      refine hK.out _ _ ⟨(au eP.out 0).trans rfl,(au eP.out 1).trans rfl,(au dX.out 0).trans rfl,(au dX.out 1).trans rfl⟩ (fun hHeld => ?_)
      clear hK K
      refine aae (a' := ?_) ?_ ?_
      rotate_left
      ·show Act.put _ (some 21) _=_
       simp only [Act.put,List.setIfInBounds_toArray,List.set_cons_zero,List.set_cons_succ,bY,cZ]
       rfl
      refine aa7 (i:=4) (N:=some 22) #[true,true,true,true,true,false] rfl rfl (by kernel_rfl) (by decide) (fun K hK => ?_)
      refine aaf Tryz.func119 (by kernel_rfl) rfl #[.agg #[.int .u64 mJ,.int .u64 kT],.int .u64 adW] (by rfl) rfl rfl zL ?_
      with_reducible refine (dG.calls mJ kT adW yK zJ _ A31.out).mono ?_
      rintro e w53 ⟨rfl,hb⟩
      refine ⟨_,rfl,?_⟩
      obtain ⟨dX,gG,fV,eP,HB⟩:=zA5 (aA (zK dX) hb) (aA (zK gG) hb) (aA (zK fV) hb) (aA (zK eP) hb) (ak zB hb)
      (try clear hb)
      (try clear hb2)
      (try clear hk)
      (try clear hi)
      refine hK.out _ _ ⟨(au eP.out 0).trans rfl,(au eP.out 1).trans rfl,(au dX.out 0).trans rfl,(au dX.out 1).trans rfl⟩ (fun hHeld => ?_)
      clear hK K
      refine aae (a' := ?_) ?_ ?_
      rotate_left
      ·show Act.put _ (some 22) _=_
       simp only [Act.put,List.setIfInBounds_toArray,List.set_cons_zero,List.set_cons_succ,bY,cZ]
       rfl
      refine aiP (i:=5) (N:=none) #[true,true,true,true,true,true] rfl rfl (by kernel_rfl) (by decide) (fun K hK => ?_)
      have aAG:w53.cell? ⟨qW,0,none⟩=some (.int .u64 mJ):=(au eP.out 0).trans rfl
      have ays:=bg eP.out 0
      have aw2:=rO.out
      have aw3:=nM.out
      have aw4:=pO.out
      have aw5:=rP.out
      have aw6:=lG.out
      have aw7:=qC.out
      have aAH:w53.cell? ⟨qW,1,none⟩=some (.int .u64 kT):=(au eP.out 1).trans rfl
      have ayt:=bg eP.out 1
      have aw8:=rO.out
      have aw9:=nM.out
      have axa:=pO.out
      have axb:=rP.out
      have axc:=lG.out
      have axd:=qC.out
      refine af6 (w1 := ?_) (by rfl) rfl ?_ ?_
      rotate_left
      ·go_simp
       rfl
      refine hK.out _ _ ?_
      clear hK K
      refine aeD (by kernel_rfl) ?_
      have ayu:=aat.out
      have ayv:=aas.out
      have ayw:=pK.out
      have ayx:=vY.out
      have auh:=pO.out
      have aui:=qC.out
      obtain ⟨_,_⟩:=zC2 fV.out
      obtain ⟨_,_⟩:=zF2 fV.out
      try go_wp2_with (first|((with_reducible refine ay (f:=119) rfl ?_);refine aH (some 24) rfl rfl Tryz.func119 (by kernel_rfl) rfl #[.agg #[.int .u64 oH,.int .u64 nN],.int .u64 0] rfl zL ?_;(with_reducible refine (dG.calls oH nN 0 acX afA _ A32.out).mono ?_);rintro e w60 ⟨rfl,hb⟩;refine ⟨_,rfl,?_⟩;obtain ⟨dX,gG,fV,eP,HB⟩:=zA5 (aA (zK dX) hb) (aA (zK gG) hb) (aA (zK fV) hb) (aA (g:=qW) (o := .cells #[.int .u64 yK,.int .u64 zJ] 179 (0,0)) (by refine zD ?_;refine aW (cs := #[.int .u64 yK,.int .u64 kT]) ?_ 1 _ rfl;refine zD ?_;refine aW (cs := #[.int .u64 mJ,.int .u64 kT]) ?_ 0 _ rfl;refine zD ?_;exact eP.out) hb) (ak zB hb);(try clear hb);obtain ⟨_,_⟩:=zC2 fV.out;obtain ⟨_,_⟩:=zF2 fV.out;have auj:=rP.out;have auk:=rO.out;have aul:=lG.out;have aum:=nM.out;obtain ⟨_,_⟩:=zC2 eP.out;obtain ⟨_,_⟩:=zF2 eP.out)|((with_reducible refine ay (f:=123) rfl ?_);refine aH (some 28) rfl rfl Tryz.func123 (by kernel_rfl) rfl #[.agg #[.int .u64 yK,.int .u64 zJ],.agg #[.int .u64 0,.int .u64 a1]] rfl zL ?_;(with_reducible refine (gU.calls yK zJ 0 a1 false _ A33.out).mono ?_);rintro e w65 ⟨rfl,hb⟩;refine ⟨_,rfl,?_⟩;obtain ⟨dX,gG,fV,eP,HB⟩:=zA5 (aA (zK dX) hb) (aA (zK gG) hb) (aA (g:=sO) (o := .cells #[.int .u64 acX,.int .u64 afA] 179 (0,0)) (by refine zD ?_;refine aW (cs := #[.int .u64 acX,.int .u64 nN]) ?_ 1 _ rfl;refine zD ?_;refine aW (cs := #[.int .u64 oH,.int .u64 nN]) ?_ 0 _ rfl;refine zD ?_;exact fV.out) hb) (aA (zK eP) hb) (ak zB hb);(try clear hb);obtain ⟨_,_⟩:=zC2 eP.out;obtain ⟨_,_⟩:=zF2 eP.out)|((with_reducible refine ay (f:=122) rfl ?_);refine aH (some 33) rfl rfl Tryz.func122 (by kernel_rfl) rfl #[.agg #[.int .u64 yK,.int .u64 zJ],.agg #[.int .u64 0,.int .u64 a1]] rfl zL ?_;(with_reducible refine (jS.calls yK zJ 0 a1 aoA asj _ A50.out).mono ?_);rintro e w67 ⟨rfl,hb⟩;refine ⟨_,rfl,?_⟩;obtain ⟨dX,gG,fV,eP,HB⟩:=zA5 (aA (zK dX) hb) (aA (zK gG) hb) (aA (zK fV) hb) (aA (zK eP) hb) (ak zB hb);(try clear hb);obtain ⟨_,_⟩:=zC2 eP.out;obtain ⟨_,_⟩:=zF2 eP.out;obtain ⟨_,_⟩:=zC2 fV.out;obtain ⟨_,_⟩:=zF2 fV.out))
      go_roundg k1
      case measure=>have:=HK1.out;omega
      case rel=>exact ⟨(wrap64 (gK - 1)),(acX),(IntKind.u64.wrap (afA+1)),(aoA),(asj),zT,H',⟨by have:=HK1.out;omega⟩,⟨zK dX⟩,⟨zK gG⟩,⟨by refine zD ?_;refine aW (cs := #[.int .u64 acX,.int .u64 afA]) ?_ 1 _ rfl;refine zD ?_;refine lN ?_ pO.out _;refine zD ?_;refine lN ?_ pO.out _;refine zD ?_;exact fV.out⟩,⟨by refine zD ?_;refine lN ?_ qC.out _;refine zD ?_;refine aW (cs := #[.int .u64 aoA,.int .u64 zJ]) ?_ 1 _ rfl;refine zD ?_;refine aW (cs := #[.int .u64 yK,.int .u64 zJ]) ?_ 0 _ rfl;refine zD ?_;exact eP.out⟩,⟨zB⟩⟩
    ·rw [if_neg c29] at H
     have amh:=decide_eq_false c29
     clear c29
     simp only [Option.some.injEq,Prod.mk.injEq] at H
     obtain ⟨rfl,rfl,rfl⟩:=H
     try go_wp2
     obtain ⟨dX,gG,fV,eP,HB⟩:=zA5 (jY dX.out) (jY gG.out) (jY fV.out) (jY eP.out) (dA HB.out)
     refine acs (n:=5) (S:=fun w'=>w'.cell? ⟨sO,0,none⟩=some (.int .u64 oH)∧w'.cell? ⟨sO,1,none⟩=some (.int .u64 nN)∧w'.cell? ⟨qW,0,none⟩=some (.int .u64 mJ)∧w'.cell? ⟨qW,1,none⟩=some (.int .u64 kT)) (ds:=[]) #[false,false,false,false,false] (by kernel_rfl) rfl rfl ⟨(au fV.out 0).trans rfl,(au fV.out 1).trans rfl,(au eP.out 0).trans rfl,(au eP.out 1).trans rfl⟩ (fun hHeld => ?_)
     generalize wr.drew=w70 at dX gG fV eP HB hHeld ⊢
     refine xw (i:=1) (N:=some 39) (v := ?_) (a' := ?_) #[false,true,false,false,false] rfl rfl (by kernel_rfl) (fun _ _ _ h=>h) (Or.inl ⟨by rfl,?_⟩) ?_ ?_
     rotate_left
     ·intro w'
      go_simp
      with_reducible rfl
     rotate_left
     ·simp only [Act.put,List.setIfInBounds_toArray,List.set_cons_zero,List.set_cons_succ,bY,cZ]
      rfl
     refine yw (i:=0) (N:=some 38) (v := ?_) (a' := ?_) #[true,true,false,false,false] rfl rfl (by kernel_rfl) (fun _ _ _ h=>h) (Or.inl ⟨by rfl,?_⟩) hHeld ?_ ?_
     rotate_left
     ·rintro w' ⟨s0,s1,s2,s3⟩
      go_simp
      with_reducible rfl
     rotate_left
     ·simp only [Act.put,List.setIfInBounds_toArray,List.set_cons_zero,List.set_cons_succ,bY,cZ]
      rfl
     refine yw (i:=2) (N:=some 40) (v := ?_) (a' := ?_) #[true,true,true,false,false] rfl rfl (by kernel_rfl) (fun _ _ _ h=>h) (Or.inl ⟨by rfl,?_⟩) hHeld ?_ ?_
     rotate_left
     ·rintro w' ⟨s0,s1,s2,s3⟩
      go_simp
      with_reducible rfl
     rotate_left
     ·simp only [Act.put,List.setIfInBounds_toArray,List.set_cons_zero,List.set_cons_succ,bY,cZ]
      rfl
     refine aa7 (i:=3) (N:=none) #[true,true,true,true,false] rfl rfl (by kernel_rfl) (by decide) (fun K hK => ?_)
     have aAI:w70.cell? ⟨vJ,0,none⟩=some (.int .u64 0):=(au gG.out 0).trans rfl
     have ayy:=bg gG.out 0
     have axe:=abP.out
     have axf:=pK.out
     have axg:=lG.out
     have axh:=abQ.out
     have axi:=vY.out
     have axj:=nM.out
     have aAJ:w70.cell? ⟨vJ,1,none⟩=some (.int .u64 0):=(au gG.out 1).trans rfl
     have ayz:=bg gG.out 1
     have axk:=abP.out
     have axl:=pK.out
     have axn:=lG.out
     have axo:=abQ.out
     have axp:=vY.out
     have axq:=nM.out
     refine af6 (w1 := ?_) (by rfl) rfl ?_ ?_
     rotate_left
     ·go_simp
      rfl
     refine hK.out _ _ ⟨((cell_far (p:=⟨vJ,_,none⟩) pK.out _).trans (((cell_far (p:=⟨vJ,_,none⟩) pK.out _).trans (hHeld.1)))),((cell_far (p:=⟨vJ,_,none⟩) pK.out _).trans (((cell_far (p:=⟨vJ,_,none⟩) pK.out _).trans (hHeld.2.1)))),((cell_far (p:=⟨vJ,_,none⟩) lG.out _).trans (((cell_far (p:=⟨vJ,_,none⟩) lG.out _).trans (hHeld.2.2.1)))),((cell_far (p:=⟨vJ,_,none⟩) lG.out _).trans (((cell_far (p:=⟨vJ,_,none⟩) lG.out _).trans (hHeld.2.2.2))))⟩ (fun hHeld => ?_)
     clear hK K
     refine xw (i:=4) (N:=some 5) (v := ?_) (a' := ?_) #[true,true,true,true,true] rfl rfl (by kernel_rfl) (fun _ _ _ h=>h) (Or.inl ⟨by rfl,?_⟩) ?_ ?_
     rotate_left
     ·intro w'
      go_simp
      with_reducible rfl
     rotate_left
     ·simp only [Act.put,List.setIfInBounds_toArray,List.set_cons_zero,List.set_cons_succ,bY,cZ]
      rfl
     refine aeD (by kernel_rfl) ?_
     try go_wp2
     refine bodyPost_ret (af7 rfl _ _ vJ 179 #[.int .u64 oH,.int .u64 nN] (0,0) _ rfl (by refine zD ?_;refine aW (cs := #[.int .u64 oH,.int .u64 0]) ?_ 1 _ rfl;refine zD ?_;refine aW (cs := #[.int .u64 0,.int .u64 0]) ?_ 0 _ rfl;refine zD ?_;exact gG.out) Tryz.underlying179 rfl (by kernel_rfl)) rfl ?_
     exact ⟨zS,zB⟩
end Go.Proofs.YtpondkggmcmpfaaGreatDoor.QA
namespace Go.Proofs.YtpondkggmcmpfaaGreatDoor.QA
open Go.Proofs.YtpondkggmcmpfaaGreatDoor.T
open Go.RowKit Go.Proofs.YtpondkggmcmpfaaGreatDoorW.PrintWords Go.Proofs.YtpondkggmcmpfaaGreatDoorW.PrintLast Go.Proofs.YtpondkggmcmpfaaGreatDoorW.PrintMore
attribute [local go_sem] dZ dS dU fK fM
set_option linter.unusedVariables false
set_option linter.unusedSimpArgs false
def gI.j0:Nat→Bool→Bool→Int→Int→Option (Int)
 | 0,_,_,_,_=>none
 | k+1,x2,x10,als,alu=>if x10=true then ((gy.f als alu 0 1).bind fun aqv=>((bT.f k aqv.1 aqv.2 x2).bind fun aoB=>(some aoB))) else ((bT.f k als alu x2).bind fun aoC=>(some aoC))
def gI.f (k:Nat) (bf bQ a1:Int) (a2:Bool):Option (Int):=(eG.f k bf bQ a1).bind fun ags=>((dG.f 0 ags.2.2 0).bind fun aiY=>((gU.f aiY.1 aiY.2 0 a1).bind fun ami=>(if a2=true then ((gU.f 0 a1 aiY.1 aiY.2).bind fun amj=>(gI.j0 k a2 amj ags.1 ags.2.1)) else (gI.j0 k a2 (!ami) ags.1 ags.2.1))))
set_option maxHeartbeats 8000000 in
set_option maxRecDepth 100000 in
theorem gI.calls (k:Nat) (bf bQ a1:Int) (a2:Bool) (r:Int) (w:World) (h:gI.f k bf bQ a1 a2=some r) :
  Calls Tryz.prog 149 #[.agg #[.int .u64 bf,.int .u64 bQ],.int .u64 a1,.bool a2] w fun e w'=>e = .returned (.int .i64 r)∧Below w.heap.size w w':=by
 have xC:=Tryz.underlying179
 have HB:=aj.mk (Below.refl w.heap.size w)
 have H:=h
 clear h
 unfold gI.f at H
 replace H:=zO H
 obtain ⟨⟨ace,acf,aoD⟩,A4,H⟩:=H
 try dsimp only at H
 replace H:=zO H
 obtain ⟨⟨adX,afB⟩,A5,H⟩:=H
 try dsimp only at H
 replace H:=zO H
 obtain ⟨ami,A6,H⟩:=H
 try dsimp only at H
 have HC7:=aj.mk H
 clear H
 go_enter Tryz.func149,Tryz.ntmps149
 go_upto_if 25 with (first|((with_reducible refine bD (N:=3) rfl ?_);refine bC zR (N:=3) zR (cs := #[.int .u64 bf,.int .u64 bQ]) (t:=179) zG ?_;intro aun hg w8 hbox hb;obtain ⟨HB,lU,ayA,ayB⟩:=zA4 (ak zB hb) hbox (zg hg zB) (zg hg zB);clear hb hbox hg;obtain ⟨_,_⟩:=zC2 lU.out;obtain ⟨_,_⟩:=zF2 lU.out)|((with_reducible refine ay (f:=172) rfl ?_);refine aH (some 14) rfl rfl Tryz.func172 (by kernel_rfl) rfl #[.agg #[.int .u64 bf,.int .u64 bQ],.int .u64 a1] rfl zL ?_;(with_reducible refine (eG.calls k bf bQ a1 ace acf aoD _ A4.out).mono ?_);rintro e w10 ⟨rfl,hb⟩;refine ⟨_,rfl,?_⟩;obtain ⟨lU,HB⟩:=zA2 (aA (zK lU) hb) (ak zB hb);(try clear hb))|((with_reducible refine bD (N:=7) rfl ?_);refine bC zR (N:=7) zR (cs := #[.int .u64 0,.int .u64 0]) (t:=179) zG ?_;intro amk hg w11 hbox hb;obtain ⟨lU,HB,lV,ayC,ayD,adY,adZ⟩:=zA7 (aA (zK lU) hb) (ak zB hb) hbox (zg hg zB) (zg hg zB) (zl hg (zK lU)) (zr hg (zK lU));clear hb hbox hg;have at1:=adZ.out;have at6:=adY.out;obtain ⟨_,_⟩:=zC2 lV.out;obtain ⟨_,_⟩:=zF2 lV.out)|((with_reducible refine ay (f:=119) rfl ?_);refine aH (some 19) rfl rfl Tryz.func119 (by kernel_rfl) rfl #[.agg #[.int .u64 0,.int .u64 aoD],.int .u64 0] rfl zL ?_;(with_reducible refine (dG.calls 0 aoD 0 adX afB _ A5.out).mono ?_);rintro e w14 ⟨rfl,hb⟩;refine ⟨_,rfl,?_⟩;obtain ⟨lU,lV,HB⟩:=zA3 (aA (zK lU) hb) (aA (g:=amk) (o := .cells #[.int .u64 ace,.int .u64 acf] 179 (0,0)) (by refine zD ?_;refine aW (cs := #[.int .u64 ace,.int .u64 0]) ?_ 1 _ rfl;refine zD ?_;refine aW (cs := #[.int .u64 0,.int .u64 0]) ?_ 0 _ rfl;refine zD ?_;exact lV.out) hb) (ak zB hb);(try clear hb))|((with_reducible refine bD (N:=9) rfl ?_);refine bC zR (N:=9) zR (cs := #[.int .u64 0,.int .u64 0]) (t:=179) zG ?_;intro aqw hg w15 hbox hb;obtain ⟨lU,lV,HB,rQ,ayE,ayF,aii,aij,abR,abS⟩:=adA (aA (zK lU) hb) (aA (zK lV) hb) (ak zB hb) hbox (zg hg zB) (zg hg zB) (zl hg (zK lU)) (zr hg (zK lU)) (zl hg (zK lV)) (zr hg (zK lV));clear hb hbox hg;have at7:=aij.out;have aua:=aii.out;have auo:=abS.out;have aup:=abR.out;obtain ⟨_,_⟩:=zC2 rQ.out;obtain ⟨_,_⟩:=zF2 rQ.out)|((with_reducible refine ay (f:=123) rfl ?_);refine aH (some 23) rfl rfl Tryz.func123 (by kernel_rfl) rfl #[.agg #[.int .u64 adX,.int .u64 afB],.agg #[.int .u64 0,.int .u64 a1]] rfl zL ?_;(with_reducible refine (gU.calls adX afB 0 a1 ami _ A6.out).mono ?_);rintro e w19 ⟨rfl,hb⟩;refine ⟨_,rfl,?_⟩;obtain ⟨lU,lV,rQ,HB⟩:=zA4 (aA (zK lU) hb) (aA (zK lV) hb) (aA (g:=aqw) (o := .cells #[.int .u64 adX,.int .u64 afB] 179 (0,0)) (by refine zD ?_;refine aW (cs := #[.int .u64 adX,.int .u64 0]) ?_ 1 _ rfl;refine zD ?_;refine aW (cs := #[.int .u64 0,.int .u64 0]) ?_ 0 _ rfl;refine zD ?_;exact rQ.out) hb) (ak zB hb);(try clear hb)))
 (try simp only [Act.put,List.setIfInBounds_toArray,List.set_cons_zero,List.set_cons_succ])
 go_cut [10] (fun v10 wc=>∃ (kq:Nat) (aiZ:Bool),v10 = .bool aiZ∧aj (gI.j0 kq a2 aiZ ace acf=some r)∧aj (kq≤k)∧aj (wc.heap[aun]? = some (.cells #[.int .u64 bf,.int .u64 bQ] 179 (0,0)))∧aj (wc.heap[amk]? = some (.cells #[.int .u64 ace,.int .u64 acf] 179 (0,0)))∧aj (wc.heap[aqw]? = some (.cells #[.int .u64 adX,.int .u64 afB] 179 (0,0)))∧aj (Below w.heap.size w wc))
 case first =>
  have H:=HC7.out
  clear HC7
  by_cases c20:a2=true
  ·subst c20
   rw [if_pos rfl] at H;try dsimp only at H
   replace H:=zO H
   obtain ⟨amj,A21,H⟩:=H
   try dsimp only at H
   have H':=aj.mk H
   clear H
   have aqo:=aij.out
   have aqp:=aii.out
   have ama:=abS.out
   have amb:=abR.out
   obtain ⟨_,_⟩:=zC2 rQ.out
   obtain ⟨_,_⟩:=zF2 rQ.out
   go_wp2_with (first|((with_reducible refine ay (f:=123) rfl ?_);refine aH (some 29) rfl rfl Tryz.func123 (by kernel_rfl) rfl #[.agg #[.int .u64 0,.int .u64 a1],.agg #[.int .u64 adX,.int .u64 afB]] rfl zL ?_;(with_reducible refine (gU.calls 0 a1 adX afB amj _ A21.out).mono ?_);rintro e w25 ⟨rfl,hb⟩;refine ⟨_,rfl,?_⟩;obtain ⟨lU,lV,rQ,HB⟩:=zA4 (aA (zK lU) hb) (aA (zK lV) hb) (aA (zK rQ) hb) (ak zB hb);(try clear hb)))
   go_meet
   case rel=>exact ⟨_,(amj),zT,H',⟨by first|omega|exact Nat.le_refl _⟩,⟨zK lU⟩,⟨zK lV⟩,⟨zK rQ⟩,⟨zB⟩⟩
  ·replace c20:=Bool.eq_false_iff.mpr c20
   subst c20
   rw [if_neg (show ¬ (false=true) by decide)] at H;try dsimp only at H
   have H':=aj.mk H
   clear H
   go_wp2
   go_meet
   case rel=>exact ⟨_,(!ami),zT,H',⟨by first|omega|exact Nat.le_refl _⟩,⟨zK lU⟩,⟨zK lV⟩,⟨zK rQ⟩,⟨zB⟩⟩
 case rest =>
  clear HC7
  obtain ⟨kq,aiZ,rfl,HA,HJ6,lU,lV,rQ,HB⟩:=hcut
  cases kq with
  | zero=>exact absurd HA.out (by simp [gI.j0])
  | succ kj6 =>
   have H:=HA.out
   clear HA
   simp only [gI.j0] at H
   by_cases c26:aiZ=true
   ·subst c26
    rw [if_pos rfl] at H;try dsimp only at H
    replace H:=zO H
    obtain ⟨⟨ajQ,aml⟩,A27,H⟩:=H
    try dsimp only at H
    replace H:=zO H
    obtain ⟨aoB,A28,H⟩:=H
    try dsimp only at H
    obtain rfl:=Option.some.inj H
    have amf:=adZ.out
    have amg:=adY.out
    have aql:=abR.out
    have aqm:=abS.out
    obtain ⟨_,_⟩:=zC2 lV.out
    obtain ⟨_,_⟩:=zF2 lV.out
    go_wp2_with (first|((with_reducible refine ay (f:=124) rfl ?_);refine aH (some 33) rfl rfl Tryz.func124 (by kernel_rfl) rfl #[.agg #[.int .u64 ace,.int .u64 acf],.agg #[.int .u64 0,.int .u64 1]] rfl zL ?_;(with_reducible refine (gy.calls ace acf 0 1 ajQ aml _ A27.out).mono ?_);rintro e w32 ⟨rfl,hb⟩;refine ⟨_,rfl,?_⟩;obtain ⟨lU,lV,rQ,HB⟩:=zA4 (aA (zK lU) hb) (aA (zK lV) hb) (aA (zK rQ) hb) (ak zB hb);(try clear hb);obtain ⟨_,_⟩:=zC2 lV.out;obtain ⟨_,_⟩:=zF2 lV.out)|((with_reducible refine ay (f:=125) rfl ?_);refine aH (some 36) rfl rfl Tryz.func125 (by kernel_rfl) rfl #[.agg #[.int .u64 ajQ,.int .u64 aml],.bool a2] rfl zL ?_;(with_reducible refine (bT.calls kj6 ajQ aml a2 aoB _ A28.out).mono ?_);rintro e w34 ⟨rfl,hb⟩;refine ⟨_,rfl,?_⟩;obtain ⟨lU,lV,rQ,HB⟩:=zA4 (aA (zK lU) hb) (aA (g:=amk) (o := .cells #[.int .u64 ajQ,.int .u64 aml] 179 (0,0)) (by refine zD ?_;refine aW (cs := #[.int .u64 ajQ,.int .u64 acf]) ?_ 1 _ rfl;refine zD ?_;refine aW (cs := #[.int .u64 ace,.int .u64 acf]) ?_ 0 _ rfl;refine zD ?_;exact lV.out) hb) (aA (zK rQ) hb) (ak zB hb);(try clear hb)))
    go_ret
    exact ⟨zS,zB⟩
   ·replace c26:=Bool.eq_false_iff.mpr c26
    subst c26
    rw [if_neg (show ¬ (false=true) by decide)] at H;try dsimp only at H
    replace H:=zO H
    obtain ⟨aoC,A35,H⟩:=H
    try dsimp only at H
    obtain rfl:=Option.some.inj H
    have ayG:=adZ.out
    have ayH:=adY.out
    have ayI:=abR.out
    have ayJ:=abS.out
    obtain ⟨_,_⟩:=zC2 lV.out
    obtain ⟨_,_⟩:=zF2 lV.out
    go_wp2_with (first|((with_reducible refine ay (f:=125) rfl ?_);refine aH (some 36) rfl rfl Tryz.func125 (by kernel_rfl) rfl #[.agg #[.int .u64 ace,.int .u64 acf],.bool a2] rfl zL ?_;(with_reducible refine (bT.calls kj6 ace acf a2 aoC _ A35.out).mono ?_);rintro e w39 ⟨rfl,hb⟩;refine ⟨_,rfl,?_⟩;obtain ⟨lU,lV,rQ,HB⟩:=zA4 (aA (zK lU) hb) (aA (zK lV) hb) (aA (zK rQ) hb) (ak zB hb);(try clear hb)))
    go_ret
    exact ⟨zS,zB⟩
def aV.f (k:Nat) (a0 a1 a2:Int):Option (Int):=if a2=0 then (some 0) else ((dI.f a0).bind fun ajR=>((dI.f a1).bind fun ajS=>((dL.f k ajR ajS).bind fun aqx=>((dI.f a2).bind fun ajT=>((gI.f k aqx.1 aqx.2 ajT (((decide (a0 < 0)) != (decide (a1 < 0))) != (decide (a2 < 0)))).bind fun aoE=>(some aoE))))))
def aV.T5:Bool × List (List Nat × List Nat):=(true,[([],[]),([],[]),([1],[1]),([],[]),([],[]),([4],[4]),([3,5],[3,5]),([0,2,6,2],[0,2,6]),([7,7,0,1,2,3,4,5,6,7],[7])])
def aV.B5:List Nat:=[0,0,2,0,0,16,56,127,255]
theorem aV.avD:sH .any (opsOf Tryz.f118 5)=aV.T5:=by kernel_rfl
theorem aV.auq:acy aV.T5.2 aV.B5=true:=by kernel_rfl
set_option maxHeartbeats 8000000 in
set_option maxRecDepth 100000 in
theorem aV.calls (k:Nat) (a0 a1 a2 r:Int) (w:World) (h:aV.f k a0 a1 a2=some r) :
  Calls Tryz.prog 118 #[.int .i64 a0,.int .i64 a1,.int .i64 a2] w fun e w'=>e = .returned (.int .i64 r)∧Below w.heap.size w w':=by
 have xC:=Tryz.underlying179
 have HB:=aj.mk (Below.refl w.heap.size w)
 have H:=h
 clear h
 unfold aV.f at H
 by_cases c4:a2=0
 ·rw [if_pos c4] at H
  have fE:(a2 == 0)=true:=beq_iff_eq.mpr c4
  have zy:(a2 != 0)=false:=bne_eq_false_iff_eq.mpr c4
  clear c4
  obtain rfl:=Option.some.inj H
  go_enter Tryz.func118,Tryz.ntmps118
  go_wp2
  go_ret
  exact ⟨zS,zB⟩
 ·rw [if_neg c4] at H
  have fE:(a2 == 0)=false:=beq_eq_false_iff_ne.mpr c4
  have zy:(a2 != 0)=true:=bne_iff_ne.mpr c4
  replace H:=zO H
  obtain ⟨ajR,A5,H⟩:=H
  try dsimp only at H
  replace H:=zO H
  obtain ⟨ajS,A6,H⟩:=H
  try dsimp only at H
  replace H:=zO H
  obtain ⟨⟨acY,ad1⟩,A7,H⟩:=H
  try dsimp only at H
  replace H:=zO H
  obtain ⟨ajT,A8,H⟩:=H
  try dsimp only at H
  replace H:=zO H
  obtain ⟨aoE,A9,H⟩:=H
  try dsimp only at H
  obtain rfl:=Option.some.inj H
  go_enter Tryz.func118,Tryz.ntmps118
  try go_wp2_with (first|((with_reducible refine ay (f:=120) rfl ?_);refine aH (some 12) rfl rfl Tryz.func120 (by kernel_rfl) rfl #[.int .i64 a0] rfl zL ?_;(with_reducible refine (dI.calls a0 ajR _ A5.out).mono ?_);rintro e w' ⟨rfl,⟨nd,rfl⟩⟩;refine ⟨_,rfl,?_⟩)|((with_reducible refine ay (f:=120) rfl ?_);refine aH (some 14) rfl rfl Tryz.func120 (by kernel_rfl) rfl #[.int .i64 a1] rfl zL ?_;(with_reducible refine (dI.calls a1 ajS _ A6.out).mono ?_);rintro e w' ⟨rfl,⟨nd,rfl⟩⟩;refine ⟨_,rfl,?_⟩)|((with_reducible refine ay (f:=148) rfl ?_);refine aH (some 15) rfl rfl Tryz.func148 (by kernel_rfl) rfl #[.int .u64 ajR,.int .u64 ajS] rfl zL ?_;(with_reducible refine (dL.calls k ajR ajS acY ad1 _ A7.out).mono ?_);rintro e w10 ⟨rfl,hb⟩;refine ⟨_,rfl,?_⟩;replace HB:=aj.mk (ak zB hb);(try clear hb))|((with_reducible refine bD (N:=7) rfl ?_);refine bC zR (N:=7) zR (cs := #[.int .u64 0,.int .u64 0]) (t:=179) zG ?_;intro aaT hg w11 hbox hb;obtain ⟨HB,sQ,ayK,ayL⟩:=zA4 (ak zB hb) hbox (zg hg zB) (zg hg zB);clear hb hbox hg;obtain ⟨_,_⟩:=zC2 sQ.out;obtain ⟨_,_⟩:=zF2 sQ.out))
  have n0_:aj (((w11.setCell ⟨aaT,0,none⟩ (.int .u64 acY)).setCell ⟨aaT,1,none⟩ (.int .u64 ad1)).heap[aaT]? = some (.cells #[.int .u64 acY,.int .u64 ad1] 179 (0,0))):=⟨by refine zD ?_;refine aW (cs := #[.int .u64 acY,.int .u64 0]) ?_ 1 _ rfl;refine zD ?_;refine aW (cs := #[.int .u64 0,.int .u64 0]) ?_ 0 _ rfl;refine zD ?_;exact sQ.out⟩
  have n1_:aj (Below w.heap.size w ((w11.setCell ⟨aaT,0,none⟩ (.int .u64 acY)).setCell ⟨aaT,1,none⟩ (.int .u64 ad1))):=⟨zB⟩
  (try clear sQ)
  (try clear HB)
  generalize ((w11.setCell ⟨aaT,0,none⟩ (.int .u64 acY)).setCell ⟨aaT,1,none⟩ (.int .u64 ad1))=w13 at n0_ n1_ ⊢
  have sQ:=n0_
  have HB:=n1_
  clear n0_ n1_
  obtain ⟨sQ,HB⟩:=zA2 (jY sQ.out) (dA HB.out)
  refine acs (n:=9) (S:=fun w'=>w'.cell? ⟨aaT,0,none⟩=some (.int .u64 acY)∧w'.cell? ⟨aaT,1,none⟩=some (.int .u64 ad1)) (ds:=[]) #[false,false,false,false,false,false,false,false,false] (by kernel_rfl) rfl rfl ⟨(au sQ.out 0).trans rfl,(au sQ.out 1).trans rfl⟩ (fun hHeld => ?_);refine anu aV.avD aV.auq (fun HT_ HW_ => ?_)
  generalize w13.drew=w14 at sQ HB hHeld ⊢
  refine xw (i:=1) (N:=some 22) (v := ?_) (a' := ?_) #[false,true,false,false,false,false,false,false,false] rfl rfl (acw HT_.out (by kernel_rfl)) (fun _ _ _ h=>h) (Or.inl ⟨by rfl,?_⟩) ?_ ?_
  rotate_left
  ·intro w'
   go_simp
   with_reducible rfl
  rotate_left
  ·simp only [Act.put,List.setIfInBounds_toArray,List.set_cons_zero,List.set_cons_succ,bY,cZ]
   rfl
  refine xw (i:=3) (N:=some 24) (v := ?_) (a' := ?_) #[false,true,false,true,false,false,false,false,false] rfl rfl (acw HT_.out (by kernel_rfl)) (fun _ _ _ h=>h) (Or.inl ⟨by rfl,?_⟩) ?_ ?_
  rotate_left
  ·intro w'
   go_simp
   with_reducible rfl
  rotate_left
  ·simp only [Act.put,List.setIfInBounds_toArray,List.set_cons_zero,List.set_cons_succ,bY,cZ]
   rfl
  refine xw (i:=4) (N:=some 25) (v := ?_) (a' := ?_) #[false,true,false,true,true,false,false,false,false] rfl rfl (acw HT_.out (by kernel_rfl)) (fun _ _ _ h=>h) (Or.inl ⟨by rfl,?_⟩) ?_ ?_
  rotate_left
  ·intro w'
   go_simp
   with_reducible rfl
  rotate_left
  ·simp only [Act.put,List.setIfInBounds_toArray,List.set_cons_zero,List.set_cons_succ,bY,cZ]
   rfl
  refine xw (i:=5) (N:=some 26) (v := ?_) (a' := ?_) #[false,true,false,true,true,true,false,false,false] rfl rfl (acw HT_.out (by kernel_rfl)) (fun _ _ _ h=>h) (Or.inl ⟨by rfl,?_⟩) ?_ ?_
  rotate_left
  ·intro w'
   go_simp
   with_reducible rfl
  rotate_left
  ·simp only [Act.put,List.setIfInBounds_toArray,List.set_cons_zero,List.set_cons_succ,bY,cZ]
   rfl
  refine xw (i:=6) (N:=some 27) (v := ?_) (a' := ?_) #[false,true,false,true,true,true,true,false,false] rfl rfl (acw HT_.out (by kernel_rfl)) (fun _ _ _ h=>h) (Or.inl ⟨by rfl,?_⟩) ?_ ?_
  rotate_left
  ·intro w'
   go_simp
   with_reducible rfl
  rotate_left
  ·simp only [Act.put,List.setIfInBounds_toArray,List.set_cons_zero,List.set_cons_succ,bY,cZ]
   rfl
  refine yw (i:=0) (N:=some 21) (v := ?_) (a' := ?_) #[true,true,false,true,true,true,true,false,false] rfl rfl (an6 HT_.out HW_.out (by kernel_rfl)) (fun _ _ _ h=>h) (Or.inl ⟨by rfl,?_⟩) hHeld ?_ ?_
  rotate_left
  ·rintro w' ⟨s0,s1⟩
   go_simp
   with_reducible rfl
  rotate_left
  ·simp only [Act.put,List.setIfInBounds_toArray,List.set_cons_zero,List.set_cons_succ,bY,cZ]
   rfl
  refine aa7 (i:=2) (N:=some 23) #[true,true,true,true,true,true,true,false,false] rfl rfl (ant HT_.out (by kernel_rfl)) (by decide) (fun K hK => ?_)
  refine aaf Tryz.func120 (by kernel_rfl) rfl #[.int .i64 a2] (by rfl) rfl rfl zL ?_
  with_reducible refine (dI.calls a2 ajT _ A8.out).mono ?_
  rintro e w' ⟨rfl,⟨nd,rfl⟩⟩
  refine ⟨_,rfl,?_⟩
  refine hK.out _ _ ⟨(au sQ.out 0).trans rfl,(au sQ.out 1).trans rfl⟩ (fun hHeld => ?_)
  clear hK K
  refine aae (a' := ?_) ?_ ?_
  rotate_left
  ·show Act.put _ (some 23) _=_
   simp only [Act.put,List.setIfInBounds_toArray,List.set_cons_zero,List.set_cons_succ,bY,cZ]
   rfl
  refine aa7 (i:=7) (N:=some 28) #[true,true,true,true,true,true,true,true,false] rfl rfl (ant HT_.out (by kernel_rfl)) (by decide) (fun K hK => ?_)
  refine aaf Tryz.func149 (by kernel_rfl) rfl #[.agg #[.int .u64 acY,.int .u64 ad1],.int .u64 ajT,.bool (((decide (a0 < 0)) != (decide (a1 < 0))) != (decide (a2 < 0)))] (by rfl) rfl rfl zL ?_
  with_reducible refine (gI.calls k acY ad1 ajT (((decide (a0 < 0)) != (decide (a1 < 0))) != (decide (a2 < 0))) aoE _ A9.out).mono ?_
  rintro e w15 ⟨rfl,hb⟩
  refine ⟨_,rfl,?_⟩
  obtain ⟨sQ,HB⟩:=zA2 (aA (zK sQ) hb) (ak zB hb)
  (try clear hb)
  (try clear hb2)
  (try clear hk)
  (try clear hi)
  refine hK.out _ _ ⟨(au sQ.out 0).trans rfl,(au sQ.out 1).trans rfl⟩ (fun hHeld => ?_)
  clear hK K
  refine aae (a' := ?_) ?_ ?_
  rotate_left
  ·show Act.put _ (some 28) _=_
   simp only [Act.put,List.setIfInBounds_toArray,List.set_cons_zero,List.set_cons_succ,bY,cZ]
   rfl
  refine xw (i:=8) (N:=some 6) (v := ?_) (a' := ?_) #[true,true,true,true,true,true,true,true,true] rfl rfl (acw HT_.out (by kernel_rfl)) (fun _ _ _ h=>h) (Or.inl ⟨by rfl,?_⟩) ?_ ?_
  rotate_left
  ·intro w'
   go_simp
   with_reducible rfl
  rotate_left
  ·simp only [Act.put,List.setIfInBounds_toArray,List.set_cons_zero,List.set_cons_succ,bY,cZ]
   rfl
  refine aeD (aq2 HT_.out (by kernel_rfl)) ?_
  try go_wp2
  go_ret
  exact ⟨zS,zB⟩
end Go.Proofs.YtpondkggmcmpfaaGreatDoor.QA
namespace Go.Proofs.YtpondkggmcmpfaaGreatDoor.QA
open Go.Proofs.YtpondkggmcmpfaaGreatDoor.T
open Go.RowKit Go.Proofs.YtpondkggmcmpfaaGreatDoorW.PrintWords Go.Proofs.YtpondkggmcmpfaaGreatDoorW.PrintLast Go.Proofs.YtpondkggmcmpfaaGreatDoorW.PrintMore
attribute [local go_sem] dZ dS dU fK fM
set_option linter.unusedVariables false
set_option linter.unusedSimpArgs false
mutual
def bP.j0:Nat→Int→Int→Bool→Option (Int)
 | 0,_,_,_=>none
 | k+1,x0,x1,x14=>if x14=true then (some 0) else (if x0≥(wrap64 (2*x1)) then (bP.j1 k x0 x1 true) else (bP.j1 k x0 x1 (decide (x0≤(wrap64 ((-2)*x1))))))
def bP.j1:Nat→Int→Int→Bool→Option (Int)
 | 0,_,_,_=>none
 | k+1,x0,x1,x24=>if x24=true then (some 0) else (if x0 < 0 then (bP.j2 k (wrap64 (-x0)) x1) else (bP.j2 k x0 x1))
def bP.j2:Nat→Int→Int→Option (Int)
 | 0,_,_=>none
 | k+1,x0,x1=>if x0 < x1 then ((aV.f k (wrap64 ((wrap64 ((wrap64 (3*(wrap64 ((wrap64 (x0*x0))*x0)))) - (wrap64 ((wrap64 (5*(wrap64 (x0*x0))))*x1))))+(wrap64 (2*(wrap64 ((wrap64 (x1*x1))*x1)))))) 1073741824 (wrap64 (2*(wrap64 ((wrap64 (x1*x1))*x1))))).bind fun aoF=>(some aoF)) else ((aV.f k (wrap64 ((wrap64 ((wrap64 ((wrap64 ((wrap64 (5*(wrap64 (x0*x0))))*x1)) - (wrap64 ((wrap64 (x0*x0))*x0)))) - (wrap64 ((wrap64 (8*x0))*(wrap64 (x1*x1))))))+(wrap64 (4*(wrap64 ((wrap64 (x1*x1))*x1)))))) 1073741824 (wrap64 (2*(wrap64 ((wrap64 (x1*x1))*x1))))).bind fun aoG=>(some aoG))
end
def bP.f (k:Nat) (a0 a1:Int):Option (Int):=if a1 < 1 then (bP.j0 k a0 a1 true) else (bP.j0 k a0 a1 (decide (a1 > 262144)))
set_option maxHeartbeats 8000000 in
set_option maxRecDepth 100000 in
theorem bP.calls (k:Nat) (a0 a1 r:Int) (w:World) (h:bP.f k a0 a1=some r) :
  Calls Tryz.prog 170 #[.int .i64 a0,.int .i64 a1] w fun e w'=>e = .returned (.int .i64 r)∧Below w.heap.size w w':=by
 have HB:=aj.mk (Below.refl w.heap.size w)
 have H:=h
 clear h
 unfold bP.f at H
 have HC3:=aj.mk H
 clear H
 go_enter Tryz.func170,Tryz.ntmps170
 go_upto_region 1 with (fail)
 go_cut [14] (fun v14 wc=>∃ (kq:Nat) (yL:Bool),v14 = .bool yL∧aj (bP.j0 kq a0 a1 yL=some r)∧aj (kq≤k)∧aj (Below w.heap.size w wc))
 case first =>
  have H:=HC3.out
  clear HC3
  by_cases c4:a1 < 1
  ·rw [if_pos c4] at H
   have fE:=decide_eq_true c4
   clear c4
   (first|rw [fE]|(simp only [bY,cZ];rw [fE])|skip)
   have H':=aj.mk H
   clear H
   go_wp2
   go_meet
   case rel=>exact ⟨_,(true),zT,H',⟨by first|omega|exact Nat.le_refl _⟩,⟨zB⟩⟩
  ·rw [if_neg c4] at H
   have fE:=decide_eq_false c4
   clear c4
   (first|rw [fE]|(simp only [bY,cZ];rw [fE])|skip)
   have H':=aj.mk H
   clear H
   go_wp2
   go_meet
   case rel=>exact ⟨_,(decide (a1 > 262144)),zT,H',⟨by first|omega|exact Nat.le_refl _⟩,⟨zB⟩⟩
 case rest =>
  clear HC3
  obtain ⟨kq,yL,rfl,HA,HJ2,HB⟩:=hcut
  cases kq with
  | zero=>exact absurd HA.out (by simp [bP.j0])
  | succ kj2 =>
   have H:=HA.out
   clear HA
   simp only [bP.j0] at H
   by_cases c5:yL=true
   ·subst c5
    rw [if_pos rfl] at H;try dsimp only at H
    obtain rfl:=Option.some.inj H
    go_wp2
    go_ret
    exact ⟨zS,zB⟩
   ·replace c5:=Bool.eq_false_iff.mpr c5
    subst c5
    rw [if_neg (show ¬ (false=true) by decide)] at H;try dsimp only at H
    have HC6:=aj.mk H
    clear H
    go_upto_region 3 with (fail)
    go_cut [24] (fun v24 wc=>∃ (kq:Nat) (ai0:Bool),v24 = .bool ai0∧aj (bP.j1 kq a0 a1 ai0=some r)∧aj (kq≤kj2)∧aj (Below w.heap.size w wc))
    case first =>
     have H:=HC6.out
     clear HC6
     by_cases c7:a0≥(wrap64 (2*a1))
     ·rw [if_pos c7] at H
      have jc:=decide_eq_true c7
      clear c7
      (first|rw [jc]|(simp only [bY,cZ];rw [jc])|skip)
      have H':=aj.mk H
      clear H
      go_wp2
      go_meet
      case rel=>exact ⟨_,(true),zT,H',⟨by have:=HJ2.out;first|omega|exact Nat.le_refl _⟩,⟨zB⟩⟩
     ·rw [if_neg c7] at H
      have jc:=decide_eq_false c7
      clear c7
      (first|rw [jc]|(simp only [bY,cZ];rw [jc])|skip)
      have H':=aj.mk H
      clear H
      go_wp2
      go_meet
      case rel=>exact ⟨_,(decide (a0≤(wrap64 ((-2)*a1)))),zT,H',⟨by have:=HJ2.out;first|omega|exact Nat.le_refl _⟩,⟨zB⟩⟩
    case rest =>
     clear HC6
     obtain ⟨kq,ai0,rfl,HA,HJ5,HB⟩:=hcut
     cases kq with
     | zero=>exact absurd HA.out (by simp [bP.j1])
     | succ kj5 =>
      have H:=HA.out
      clear HA
      simp only [bP.j1] at H
      by_cases c8:ai0=true
      ·subst c8
       rw [if_pos rfl] at H;try dsimp only at H
       obtain rfl:=Option.some.inj H
       go_wp2
       go_ret
       exact ⟨zS,zB⟩
      ·replace c8:=Bool.eq_false_iff.mpr c8
       subst c8
       rw [if_neg (show ¬ (false=true) by decide)] at H;try dsimp only at H
       have HC9:=aj.mk H
       clear H
       go_upto_if 26 with (fail)
       go_cut [0] (fun v0 wc=>∃ (kq:Nat) (pR:Int),v0 = .int .i64 pR∧aj (bP.j2 kq pR a1=some r)∧aj (kq≤kj5)∧aj (Below w.heap.size w wc))
       case first =>
        have H:=HC9.out
        clear HC9
        by_cases c10:a0 < 0
        ·rw [if_pos c10] at H
         have pX:=decide_eq_true c10
         clear c10
         (first|rw [pX]|(simp only [bY,cZ];rw [pX])|skip)
         have H':=aj.mk H
         clear H
         go_wp2
         go_meet
         case rel=>exact ⟨_,(wrap64 (-a0)),zT,H',⟨by have:=HJ2.out;have:=HJ5.out;first|omega|exact Nat.le_refl _⟩,⟨zB⟩⟩
        ·rw [if_neg c10] at H
         have pX:=decide_eq_false c10
         clear c10
         (first|rw [pX]|(simp only [bY,cZ];rw [pX])|skip)
         have H':=aj.mk H
         clear H
         go_wp2
         go_meet
         case rel=>exact ⟨_,(a0),zT,H',⟨by have:=HJ2.out;have:=HJ5.out;first|omega|exact Nat.le_refl _⟩,⟨zB⟩⟩
       case rest =>
        clear HC9
        obtain ⟨kq,pR,rfl,HA,HJ8,HB⟩:=hcut
        cases kq with
        | zero=>exact absurd HA.out (by simp [bP.j2])
        | succ kj8 =>
         have H:=HA.out
         clear HA
         simp only [bP.j2] at H
         by_cases c11:pR < a1
         ·rw [if_pos c11] at H
          have iH:=decide_eq_true c11
          clear c11
          replace H:=zO H
          obtain ⟨aoF,A12,H⟩:=H
          try dsimp only at H
          obtain rfl:=Option.some.inj H
          go_wp2_with (first|((with_reducible refine ay (f:=118) rfl ?_);refine aH (some 56) rfl rfl Tryz.func118 (by kernel_rfl) rfl #[.int .i64 (wrap64 ((wrap64 ((wrap64 (3*(wrap64 ((wrap64 (pR*pR))*pR)))) - (wrap64 ((wrap64 (5*(wrap64 (pR*pR))))*a1))))+(wrap64 (2*(wrap64 ((wrap64 (a1*a1))*a1)))))),.int .i64 1073741824,.int .i64 (wrap64 (2*(wrap64 ((wrap64 (a1*a1))*a1))))] rfl zL ?_;(with_reducible refine (aV.calls kj8 (wrap64 ((wrap64 ((wrap64 (3*(wrap64 ((wrap64 (pR*pR))*pR)))) - (wrap64 ((wrap64 (5*(wrap64 (pR*pR))))*a1))))+(wrap64 (2*(wrap64 ((wrap64 (a1*a1))*a1)))))) 1073741824 (wrap64 (2*(wrap64 ((wrap64 (a1*a1))*a1)))) aoF _ A12.out).mono ?_);rintro e w13 ⟨rfl,hb⟩;refine ⟨_,rfl,?_⟩;replace HB:=aj.mk (ak zB hb);(try clear hb)))
          go_ret
          exact ⟨zS,zB⟩
         ·rw [if_neg c11] at H
          have iH:=decide_eq_false c11
          clear c11
          replace H:=zO H
          obtain ⟨aoG,A14,H⟩:=H
          try dsimp only at H
          obtain rfl:=Option.some.inj H
          go_wp2_with (first|((with_reducible refine ay (f:=118) rfl ?_);refine aH (some 73) rfl rfl Tryz.func118 (by kernel_rfl) rfl #[.int .i64 (wrap64 ((wrap64 ((wrap64 ((wrap64 ((wrap64 (5*(wrap64 (pR*pR))))*a1)) - (wrap64 ((wrap64 (pR*pR))*pR)))) - (wrap64 ((wrap64 (8*pR))*(wrap64 (a1*a1))))))+(wrap64 (4*(wrap64 ((wrap64 (a1*a1))*a1)))))),.int .i64 1073741824,.int .i64 (wrap64 (2*(wrap64 ((wrap64 (a1*a1))*a1))))] rfl zL ?_;(with_reducible refine (aV.calls kj8 (wrap64 ((wrap64 ((wrap64 ((wrap64 ((wrap64 (5*(wrap64 (pR*pR))))*a1)) - (wrap64 ((wrap64 (pR*pR))*pR)))) - (wrap64 ((wrap64 (8*pR))*(wrap64 (a1*a1))))))+(wrap64 (4*(wrap64 ((wrap64 (a1*a1))*a1)))))) 1073741824 (wrap64 (2*(wrap64 ((wrap64 (a1*a1))*a1)))) aoG _ A14.out).mono ?_);rintro e w15 ⟨rfl,hb⟩;refine ⟨_,rfl,?_⟩;replace HB:=aj.mk (ak zB hb);(try clear hb)))
          go_ret
          exact ⟨zS,zB⟩
end Go.Proofs.YtpondkggmcmpfaaGreatDoor.QA
