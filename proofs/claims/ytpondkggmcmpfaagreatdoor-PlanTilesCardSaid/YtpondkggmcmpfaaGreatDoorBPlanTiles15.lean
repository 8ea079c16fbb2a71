/- Joined by wip/tools/bundle.py out of: QAx43 QAx42 QAx44 QAx45 TLaid WSized. -/
import Derived.Test.YtpondkggmcmpfaaGreatDoorBPlanTiles0
import Derived.Test.YtpondkggmcmpfaaGreatDoorBPlanTiles1
import Derived.Test.YtpondkggmcmpfaaGreatDoorRows
import Derived.ProofKit
import Derived.OpenShut
import Derived.LaidMore
import Derived.Lay
import Derived.ChangeSame
import Derived.SizedLaws
import Derived.ChangeSlices
namespace Go.Proofs.YtpondkggmcmpfaaGreatDoor.QA
open Go.Proofs.YtpondkggmcmpfaaGreatDoor.T
open Go.RowKit Go.Proofs.YtpondkggmcmpfaaGreatDoorW.PrintWords Go.Proofs.YtpondkggmcmpfaaGreatDoorW.PrintLast Go.Proofs.YtpondkggmcmpfaaGreatDoorW.PrintMore
attribute [local go_sem] eG dX dY fF fG
set_option linter.unusedVariables false
set_option linter.unusedSimpArgs false
mutual
def aU.l0:Nat→Int→Int→Int→Int→Bool→List (iL)→Int→Int→Option (Int × Int × Bool)
 | 0,_,_,_,_,_,_,_,_=>none
 | k+1,x1,x2,x9,x10,x11,x16,x17,x18=>if x18 < x17 then (if 0≤x18 then (if x18 < (x16.length:Int) then (if x18 < x1 then (aU.j1 k x1 x2 x9 x10 x11 x16 x17 x18 true ((eX x16 x18).f0) ((eX x16 x18).f1)) else (aU.j1 k x1 x2 x9 x10 x11 x16 x17 x18 (decide (x18≥x2)) ((eX x16 x18).f0) ((eX x16 x18).f1))) else (none)) else (none)) else (some (x9,x10,x11))
def aU.j1:Nat→Int→Int→Int→Int→Bool→List (iL)→Int→Int→Bool→Int→List Int→Option (Int × Int × Bool)
 | 0,_,_,_,_,_,_,_,_,_,_,_=>none
 | k+1,x1,x2,x9,x10,x11,x16,x17,x18,x30,qO,sZ=>if x30=true then (aU.l0 k x1 x2 x9 x10 x11 x16 x17 (wrap64 (x18+1))) else (aU.l1 k x1 x2 x9 x10 x11 x16 x17 x18 (sZ.length:Int) 0 qO sZ)
def aU.l1:Nat→Int→Int→Int→Int→Bool→List (iL)→Int→Int→Int→Int→Int→List Int→Option (Int × Int × Bool)
 | 0,_,_,_,_,_,_,_,_,_,_,_,_=>none
 | k+1,x1,x2,x9,x10,x11,x16,x17,x18,x33,x34,qO,sZ=>if x34 < x33 then (if x11=true then (aU.j3 k x1 x2 x9 x10 x11 (wrap64 (qO+x34)) x16 x17 x18 x33 x34 (decide ((wrap64 (qO+x34)) < x9)) qO sZ) else (aU.j3 k x1 x2 x9 x10 x11 (wrap64 (qO+x34)) x16 x17 x18 x33 x34 true qO sZ)) else (aU.l0 k x1 x2 x9 x10 x11 x16 x17 (wrap64 (x18+1)))
def aU.j3:Nat→Int→Int→Int→Int→Bool→Int→List (iL)→Int→Int→Int→Int→Bool→Int→List Int→Option (Int × Int × Bool)
 | 0,_,_,_,_,_,_,_,_,_,_,_,_,_,_=>none
 | k+1,x1,x2,x9,x10,x11,x15,x16,x17,x18,x33,x34,x47,qO,sZ=>if x47=true then (if x11=true then (if (wrap64 (x15+1)) > x10 then (aU.l1 k x1 x2 x15 (wrap64 (x15+1)) true x16 x17 x18 x33 (wrap64 (x34+1)) qO sZ) else (aU.l1 k x1 x2 x15 x10 true x16 x17 x18 x33 (wrap64 (x34+1)) qO sZ)) else (aU.l1 k x1 x2 x15 (wrap64 (x15+1)) true x16 x17 x18 x33 (wrap64 (x34+1)) qO sZ)) else (if x11=true then (if (wrap64 (x15+1)) > x10 then (aU.l1 k x1 x2 x9 (wrap64 (x15+1)) true x16 x17 x18 x33 (wrap64 (x34+1)) qO sZ) else (aU.l1 k x1 x2 x9 x10 true x16 x17 x18 x33 (wrap64 (x34+1)) qO sZ)) else (aU.l1 k x1 x2 x9 (wrap64 (x15+1)) true x16 x17 x18 x33 (wrap64 (x34+1)) qO sZ))
end
def aU.f (k:Nat) (l0:List (iL)) (a1 a2:Int):Option (Int × Int × Bool):=aU.l0 k a1 a2 0 0 false l0 (l0.length:Int) 0
set_option maxHeartbeats 8000000 in
set_option maxRecDepth 100000 in
theorem aU.calls (k:Nat) (A0:Option Addr) (c0:Nat) (l0:List (iL)) (a1 a2 r1 r2:Int) (r3:Bool) (w:World) (hr0:Kd.C wP w A0 l0.length l0) (hc0:l0.length≤c0) (h:aU.f k l0 a1 a2=some (r1,r2,r3)) :
  Calls Tryz.prog 63 #[.slice A0 l0.length c0,.int .i64 a1,.int .i64 a2] w fun e w'=>e = .returned (.tuple #[.int .i64 r1,.int .i64 r2,.bool r3])∧Below w.heap.size w w':=by
 have as2:=Tryz.underlying138
 have HR0:=aj.mk hr0
 have HC0:=aj.mk hc0
 clear hr0 hc0
 have HB:=aj.mk (Below.refl w.heap.size w)
 have H:=h
 clear h
 unfold aU.f at H
 have H':=aj.mk H
 clear H
 go_enter Tryz.func63,Tryz.ntmps63
 go_wp2
 go_loopg [9,10,11,18] k (fun kq v9 v10 v11 v18 w'=>∃ (pq:Int) (qj:Int) (afP:Bool) (jc:Int),v9 = .int .i64 pq∧v10 = .int .i64 qj∧v11 = .bool afP∧v18 = .int .i64 jc∧aj (aU.l0 kq a1 a2 pq qj afP l0 (l0.length:Int) jc=some (r1,r2,r3))∧aj (kq≤k)∧aj (Below w.heap.size w w'))
 case atStart=>exact ⟨(0),(0),(false),(0),zT,zT,zT,zT,H',⟨Nat.le_refl _⟩,⟨zB⟩⟩
 case round =>
  clear H'
  obtain ⟨pq,qj,afP,jc,rfl,rfl,rfl,rfl,HA,HK1,HB⟩:=hrel
  cases gk with
  | zero=>exact absurd HA.out (by simp [aU.l0])
  | succ k1 =>
   have H:=HA.out
   clear HA
   simp only [aU.l0] at H
   by_cases c4:jc < (l0.length:Int)
   ·rw [if_pos c4] at H
    have gI:=decide_eq_true c4
    clear c4
    by_cases c5:0≤jc
    ·rw [if_pos c5] at H
     have iR:=decide_eq_true c5
     clear c5
     by_cases c6:jc < (l0.length:Int)
     ·rw [if_pos c6] at H
      have iJ:=decide_eq_true c6
      clear c6
      have HC7:=aj.mk H
      clear H
      have arp:0≤(jc:Int):=of_decide_eq_true (by first|(with_reducible assumption)|assumption)
      have arq:jc < (l0.length:Int):=of_decide_eq_true (by first|(with_reducible assumption)|assumption)
      obtain ⟨aCD,alq,alr,ayq,aiO,aiP,amW,amX⟩:=ait HR0.out jc arp arq
      cases ayq
      replace aiO:=(HB.out.cell (World.block_lt_of_cell? w _ aiO)).trans aiO
      replace aiP:=(HB.out.cell (World.block_lt_of_cell? w _ aiP)).trans aiP
      have aAe:=aj.mk amX
      have aAf:=aj.mk amW
      clear amX amW
      replace arp:=eq_true arp
      replace arq:=eq_true arq
      go_upto_region 7 with (first|((with_reducible refine bK (N:=13) rfl ?_);refine bJ zR (N:=13) zR (cs := #[.int .i64 0,.slice none 0 0]) (t:=138) zG ?_;intro aoq hg w8 hbox hb;obtain ⟨HB,qP,aCE,aCF⟩:=zA4 (ak zB hb) hbox (zg hg zB) (zg hg zB);clear hb hbox hg;obtain ⟨_,_⟩:=zC2 qP.out;obtain ⟨_,_⟩:=zF2 qP.out))
      (try simp only [Act.put,List.setIfInBounds_toArray,List.set_cons_zero,List.set_cons_succ])
      go_cut [30] (fun v30 wc=>∃ (kq:Nat) (akm:Bool),v30 = .bool akm∧aj (aU.j1 kq a1 a2 pq qj afP l0 (l0.length:Int) jc akm ((eX l0 jc).f0) ((eX l0 jc).f1)=some (r1,r2,r3))∧aj (kq≤k1)∧aj (wc.heap[aoq]? = some (.cells #[.int .i64 ((eX l0 jc).f0),(.slice alq ((eX l0 jc).f1).length alr)] 138 (0,0)))∧aj (Below w.heap.size w wc))
      case first =>
       have H:=HC7.out
       clear HC7
       by_cases c10:jc < a1
       ·rw [if_pos c10] at H
        have nN:=decide_eq_true c10
        clear c10
        (first|rw [nN]|(simp only [cZ,dB];rw [nN])|skip)
        have H':=aj.mk H
        clear H
        go_wp2
        go_meet
        case rel=>exact ⟨_,(true),zT,H',⟨by have:=HK1.out;first|omega|exact Nat.le_refl _⟩,⟨by refine zD ?_;refine aJ (cs := #[.int .i64 ((eX l0 jc).f0),.slice none 0 0]) ?_ 1 _ rfl;refine zD ?_;refine aJ (cs := #[.int .i64 0,.slice none 0 0]) ?_ 0 _ rfl;refine zD ?_;exact qP.out⟩,⟨zB⟩⟩
       ·rw [if_neg c10] at H
        have nN:=decide_eq_false c10
        clear c10
        (first|rw [nN]|(simp only [cZ,dB];rw [nN])|skip)
        have H':=aj.mk H
        clear H
        go_wp2
        go_meet
        case rel=>exact ⟨_,(decide (jc≥a2)),zT,H',⟨by have:=HK1.out;first|omega|exact Nat.le_refl _⟩,⟨by refine zD ?_;refine aJ (cs := #[.int .i64 ((eX l0 jc).f0),.slice none 0 0]) ?_ 1 _ rfl;refine zD ?_;refine aJ (cs := #[.int .i64 0,.slice none 0 0]) ?_ 0 _ rfl;refine zD ?_;exact qP.out⟩,⟨zB⟩⟩
      case rest =>
       clear HC7
       try clear hx4
       obtain ⟨kq,akm,rfl,HA,HJ6,qP,HB⟩:=hcut
       cases kq with
       | zero=>exact absurd HA.out (by simp [aU.j1])
       | succ kj6 =>
        have H:=HA.out
        clear HA
        simp only [aU.j1] at H
        by_cases c11:akm=true
        ·subst c11
         rw [if_pos rfl] at H;try dsimp only at H
         have H':=aj.mk H
         clear H
         go_wp2
         go_roundg kj6
         case measure=>have:=HK1.out;have:=HJ6.out;omega
         case rel=>exact ⟨(pq),(qj),(afP),(wrap64 (jc+1)),zT,zT,zT,zT,H',⟨by have:=HK1.out;have:=HJ6.out;omega⟩,⟨zB⟩⟩
        ·replace c11:=Bool.eq_false_iff.mpr c11
         subst c11
         rw [if_neg (show ¬ (false=true) by decide)] at H;try dsimp only at H
         have H':=aj.mk H
         clear H
         obtain ⟨_,_⟩:=zC2 qP.out
         obtain ⟨_,_⟩:=zF2 qP.out
         go_wp2
         go_loopg [9,10,11,34] kj6 (fun kq v9 v10 v11 v34 w'=>∃ (xX:Int) (jZ:Int) (xB:Bool) (pG:Int),v9 = .int .i64 xX∧v10 = .int .i64 jZ∧v11 = .bool xB∧v34 = .int .i64 pG∧aj (aU.l1 kq a1 a2 xX jZ xB l0 (l0.length:Int) jc (((eX l0 jc).f1).length:Int) pG ((eX l0 jc).f0) ((eX l0 jc).f1)=some (r1,r2,r3))∧aj (kq≤kj6)∧aj (w'.heap[aoq]? = some (.cells #[.int .i64 ((eX l0 jc).f0),(.slice alq ((eX l0 jc).f1).length alr)] 138 (0,0)))∧aj (Below w.heap.size w w'))
         case atStart=>exact ⟨(pq),(qj),(afP),(0),zT,zT,zT,zT,H',⟨Nat.le_refl _⟩,⟨zK qP⟩,⟨zB⟩⟩
         case round =>
          clear H'
          try clear hx4
          obtain ⟨xX,jZ,xB,pG,rfl,rfl,rfl,rfl,HA,HK3,qP,HB⟩:=hrel
          cases gk with
          | zero=>exact absurd HA.out (by simp [aU.l1])
          | succ k3 =>
           have H:=HA.out
           clear HA
           simp only [aU.l1] at H
           by_cases c13:pG < (((eX l0 jc).f1).length:Int)
           ·rw [if_pos c13] at H
            have aaZ:=decide_eq_true c13
            clear c13
            have ars:=aj.mk H
            clear H
            obtain ⟨_,_⟩:=zC2 qP.out
            obtain ⟨_,_⟩:=zF2 qP.out
            go_upto_region 12 with (fail)
            go_cut [47] (fun v47 wc=>∃ (kq:Nat) (ahJ:Bool),v47 = .bool ahJ∧aj (aU.j3 kq a1 a2 xX jZ xB (wrap64 (((eX l0 jc).f0)+pG)) l0 (l0.length:Int) jc (((eX l0 jc).f1).length:Int) pG ahJ ((eX l0 jc).f0) ((eX l0 jc).f1)=some (r1,r2,r3))∧aj (kq≤k3)∧aj (wc.heap[aoq]? = some (.cells #[.int .i64 ((eX l0 jc).f0),(.slice alq ((eX l0 jc).f1).length alr)] 138 (0,0)))∧aj (Below w.heap.size w wc))
            case first =>
             have H:=ars.out
             clear ars
             by_cases c16:xB=true
             ·subst c16
              rw [if_pos rfl] at H;try dsimp only at H
              have H':=aj.mk H
              clear H
              go_wp2
              go_meet
              case rel=>exact ⟨_,(decide ((wrap64 (((eX l0 jc).f0)+pG)) < xX)),zT,H',⟨by have:=HK1.out;have:=HJ6.out;have:=HK3.out;first|omega|exact Nat.le_refl _⟩,⟨zK qP⟩,⟨zB⟩⟩
             ·replace c16:=Bool.eq_false_iff.mpr c16
              subst c16
              rw [if_neg (show ¬ (false=true) by decide)] at H;try dsimp only at H
              have H':=aj.mk H
              clear H
              go_wp2
              go_meet
              case rel=>exact ⟨_,(true),zT,H',⟨by have:=HK1.out;have:=HJ6.out;have:=HK3.out;first|omega|exact Nat.le_refl _⟩,⟨zK qP⟩,⟨zB⟩⟩
            case rest =>
             clear ars
             try clear hx4
             obtain ⟨kq,ahJ,rfl,HA,abE,qP,HB⟩:=hcut
             cases kq with
             | zero=>exact absurd HA.out (by simp [aU.j3])
             | succ aiQ =>
              have H:=HA.out
              clear HA
              simp only [aU.j3] at H
              by_cases c17:ahJ=true
              ·subst c17
               rw [if_pos rfl] at H;try dsimp only at H
               by_cases c18:xB=true
               ·subst c18
                rw [if_pos rfl] at H;try dsimp only at H
                by_cases c19:(wrap64 ((wrap64 (((eX l0 jc).f0)+pG))+1)) > jZ
                ·rw [if_pos c19] at H
                 have an4:=decide_eq_true c19
                 clear c19
                 have H':=aj.mk H
                 clear H
                 go_wp2
                 go_roundg aiQ
                 case measure=>have:=HK1.out;have:=HJ6.out;have:=HK3.out;have:=abE.out;omega
                 case rel=>exact ⟨((wrap64 (((eX l0 jc).f0)+pG))),(wrap64 ((wrap64 (((eX l0 jc).f0)+pG))+1)),(true),(wrap64 (pG+1)),zT,zT,zT,zT,H',⟨by have:=HK1.out;have:=HJ6.out;have:=HK3.out;have:=abE.out;omega⟩,⟨zK qP⟩,⟨zB⟩⟩
                ·rw [if_neg c19] at H
                 have an4:=decide_eq_false c19
                 clear c19
                 have H':=aj.mk H
                 clear H
                 go_wp2
                 go_roundg aiQ
                 case measure=>have:=HK1.out;have:=HJ6.out;have:=HK3.out;have:=abE.out;omega
                 case rel=>exact ⟨((wrap64 (((eX l0 jc).f0)+pG))),(jZ),(true),(wrap64 (pG+1)),zT,zT,zT,zT,H',⟨by have:=HK1.out;have:=HJ6.out;have:=HK3.out;have:=abE.out;omega⟩,⟨zK qP⟩,⟨zB⟩⟩
               ·replace c18:=Bool.eq_false_iff.mpr c18
                subst c18
                rw [if_neg (show ¬ (false=true) by decide)] at H;try dsimp only at H
                have H':=aj.mk H
                clear H
                go_wp2
                go_roundg aiQ
                case measure=>have:=HK1.out;have:=HJ6.out;have:=HK3.out;have:=abE.out;omega
                case rel=>exact ⟨((wrap64 (((eX l0 jc).f0)+pG))),(wrap64 ((wrap64 (((eX l0 jc).f0)+pG))+1)),(true),(wrap64 (pG+1)),zT,zT,zT,zT,H',⟨by have:=HK1.out;have:=HJ6.out;have:=HK3.out;have:=abE.out;omega⟩,⟨zK qP⟩,⟨zB⟩⟩
              ·replace c17:=Bool.eq_false_iff.mpr c17
               subst c17
               rw [if_neg (show ¬ (false=true) by decide)] at H;try dsimp only at H
               by_cases c20:xB=true
               ·subst c20
                rw [if_pos rfl] at H;try dsimp only at H
                by_cases c21:(wrap64 ((wrap64 (((eX l0 jc).f0)+pG))+1)) > jZ
                ·rw [if_pos c21] at H
                 have aan:=decide_eq_true c21
                 clear c21
                 have H':=aj.mk H
                 clear H
                 go_wp2
                 go_roundg aiQ
                 case measure=>have:=HK1.out;have:=HJ6.out;have:=HK3.out;have:=abE.out;omega
                 case rel=>exact ⟨(xX),(wrap64 ((wrap64 (((eX l0 jc).f0)+pG))+1)),(true),(wrap64 (pG+1)),zT,zT,zT,zT,H',⟨by have:=HK1.out;have:=HJ6.out;have:=HK3.out;have:=abE.out;omega⟩,⟨zK qP⟩,⟨zB⟩⟩
                ·rw [if_neg c21] at H
                 have aan:=decide_eq_false c21
                 clear c21
                 have H':=aj.mk H
                 clear H
                 go_wp2
                 go_roundg aiQ
                 case measure=>have:=HK1.out;have:=HJ6.out;have:=HK3.out;have:=abE.out;omega
                 case rel=>exact ⟨(xX),(jZ),(true),(wrap64 (pG+1)),zT,zT,zT,zT,H',⟨by have:=HK1.out;have:=HJ6.out;have:=HK3.out;have:=abE.out;omega⟩,⟨zK qP⟩,⟨zB⟩⟩
               ·replace c20:=Bool.eq_false_iff.mpr c20
                subst c20
                rw [if_neg (show ¬ (false=true) by decide)] at H;try dsimp only at H
                have H':=aj.mk H
                clear H
                go_wp2
                go_roundg aiQ
                case measure=>have:=HK1.out;have:=HJ6.out;have:=HK3.out;have:=abE.out;omega
                case rel=>exact ⟨(xX),(wrap64 ((wrap64 (((eX l0 jc).f0)+pG))+1)),(true),(wrap64 (pG+1)),zT,zT,zT,zT,H',⟨by have:=HK1.out;have:=HJ6.out;have:=HK3.out;have:=abE.out;omega⟩,⟨zK qP⟩,⟨zB⟩⟩
           ·rw [if_neg c13] at H
            have aaZ:=decide_eq_false c13
            clear c13
            have H':=aj.mk H
            clear H
            go_wp2
            go_roundg k3
            case measure=>have:=HK1.out;have:=HJ6.out;have:=HK3.out;omega
            case rel=>exact ⟨(xX),(jZ),(xB),(wrap64 (jc+1)),zT,zT,zT,zT,H',⟨by have:=HK1.out;have:=HJ6.out;have:=HK3.out;omega⟩,⟨zB⟩⟩
     ·rw [if_neg c6] at H
      exact absurd H (by simp)
    ·rw [if_neg c5] at H
     exact absurd H (by simp)
   ·rw [if_neg c4] at H
    have gI:=decide_eq_false c4
    clear c4
    simp only [Option.some.injEq,Prod.mk.injEq] at H
    obtain ⟨rfl,rfl,rfl⟩:=H
    go_wp2
    go_ret3
    exact ⟨zS,zB⟩
end Go.Proofs.YtpondkggmcmpfaaGreatDoor.QA
namespace Go.Proofs.YtpondkggmcmpfaaGreatDoor.QA
open Go.Proofs.YtpondkggmcmpfaaGreatDoor.T
open Go.RowKit Go.Proofs.YtpondkggmcmpfaaGreatDoorW.PrintWords Go.Proofs.YtpondkggmcmpfaaGreatDoorW.PrintLast Go.Proofs.YtpondkggmcmpfaaGreatDoorW.PrintMore
attribute [local go_sem] eG dX dY fF fG
set_option linter.unusedVariables false
set_option linter.unusedSimpArgs false
def gG.l0:Nat→Int→List (iL)→Int→Int→Option (Int)
 | 0,_,_,_,_=>none
 | k+1,x3,x6,x7,x8=>if x8 < x7 then (if 0≤x8 then (if x8 < (x6.length:Int) then (if (((eX x6 x8).f1).length:Int) > x3 then (gG.l0 k (((eX x6 x8).f1).length:Int) x6 x7 (wrap64 (x8+1))) else (gG.l0 k x3 x6 x7 (wrap64 (x8+1)))) else (none)) else (none)) else (some x3)
def gG.f (k:Nat) (l0:List (iL)):Option (Int):=gG.l0 k 0 l0 (l0.length:Int) 0
set_option maxHeartbeats 8000000 in
set_option maxRecDepth 100000 in
theorem gG.calls (k:Nat) (A0:Option Addr) (c0:Nat) (l0:List (iL)) (r:Int) (w:World) (hr0:Kd.C wP w A0 l0.length l0) (hc0:l0.length≤c0) (h:gG.f k l0=some r) :
  Calls Tryz.prog 62 #[.slice A0 l0.length c0] w fun e w'=>e = .returned (.int .i64 r)∧Below w.heap.size w w':=by
 have as2:=Tryz.underlying138
 have HR0:=aj.mk hr0
 have HC0:=aj.mk hc0
 clear hr0 hc0
 have HB:=aj.mk (Below.refl w.heap.size w)
 have H:=h
 clear h
 unfold gG.f at H
 have H':=aj.mk H
 clear H
 go_enter Tryz.func62,Tryz.ntmps62
 go_wp2
 go_loopg [3,8] k (fun kq v3 v8 w'=>∃ (oK:Int) (bC:Int),v3 = .int .i64 oK∧v8 = .int .i64 bC∧aj (gG.l0 kq oK l0 (l0.length:Int) bC=some r)∧aj (kq≤k)∧aj (Below w.heap.size w w'))
 case atStart=>exact ⟨(0),(0),zT,zT,H',⟨Nat.le_refl _⟩,⟨zB⟩⟩
 case round =>
  clear H'
  obtain ⟨oK,bC,rfl,rfl,HA,HK1,HB⟩:=hrel
  cases gk with
  | zero=>exact absurd HA.out (by simp [gG.l0])
  | succ k1 =>
   have H:=HA.out
   clear HA
   simp only [gG.l0] at H
   by_cases c2:bC < (l0.length:Int)
   ·rw [if_pos c2] at H
    have lS:=decide_eq_true c2
    clear c2
    by_cases c3:0≤bC
    ·rw [if_pos c3] at H
     have gq:=decide_eq_true c3
     clear c3
     by_cases c4:bC < (l0.length:Int)
     ·rw [if_pos c4] at H
      have gI:=decide_eq_true c4
      clear c4
      by_cases c5:(((eX l0 bC).f1).length:Int) > oK
      ·rw [if_pos c5] at H
       have iR:=decide_eq_true c5
       clear c5
       have H':=aj.mk H
       clear H
       have agO:0≤(bC:Int):=of_decide_eq_true (by first|(with_reducible assumption)|assumption)
       have agP:bC < (l0.length:Int):=of_decide_eq_true (by first|(with_reducible assumption)|assumption)
       obtain ⟨aw6,au8,au9,aru,aaN,aaO,ady,adz⟩:=ait HR0.out bC agO agP
       cases aru
       replace aaN:=(HB.out.cell (World.block_lt_of_cell? w _ aaN)).trans aaN
       replace aaO:=(HB.out.cell (World.block_lt_of_cell? w _ aaO)).trans aaO
       have atS:=aj.mk adz
       have atT:=aj.mk ady
       clear adz ady
       replace agO:=eq_true agO
       replace agP:=eq_true agP
       go_wp2_with (first|((with_reducible refine bK (N:=5) rfl ?_);refine bJ zR (N:=5) zR (cs := #[.int .i64 0,.slice none 0 0]) (t:=138) zG ?_;intro aw7 hg w6 hbox hb;obtain ⟨HB,ahK,aw8,aw9⟩:=zA4 (ak zB hb) hbox (zg hg zB) (zg hg zB);clear hb hbox hg;obtain ⟨_,_⟩:=zC2 ahK.out;obtain ⟨_,_⟩:=zF2 ahK.out))
       go_roundg k1
       case measure=>have:=HK1.out;omega
       case rel=>exact ⟨((((eX l0 bC).f1).length:Int)),(wrap64 (bC+1)),zT,zT,H',⟨by have:=HK1.out;omega⟩,⟨zB⟩⟩
      ·rw [if_neg c5] at H
       have iR:=decide_eq_false c5
       clear c5
       have H':=aj.mk H
       clear H
       have agO:0≤(bC:Int):=of_decide_eq_true (by first|(with_reducible assumption)|assumption)
       have agP:bC < (l0.length:Int):=of_decide_eq_true (by first|(with_reducible assumption)|assumption)
       obtain ⟨aw6,au8,au9,aru,aaN,aaO,ady,adz⟩:=ait HR0.out bC agO agP
       cases aru
       replace aaN:=(HB.out.cell (World.block_lt_of_cell? w _ aaN)).trans aaN
       replace aaO:=(HB.out.cell (World.block_lt_of_cell? w _ aaO)).trans aaO
       have atS:=aj.mk adz
       have atT:=aj.mk ady
       clear adz ady
       replace agO:=eq_true agO
       replace agP:=eq_true agP
       go_wp2_with (first|((with_reducible refine bK (N:=5) rfl ?_);refine bJ zR (N:=5) zR (cs := #[.int .i64 0,.slice none 0 0]) (t:=138) zG ?_;intro aw7 hg w8 hbox hb;obtain ⟨HB,ahK,aw8,aw9⟩:=zA4 (ak zB hb) hbox (zg hg zB) (zg hg zB);clear hb hbox hg;obtain ⟨_,_⟩:=zC2 ahK.out;obtain ⟨_,_⟩:=zF2 ahK.out))
       go_roundg k1
       case measure=>have:=HK1.out;omega
       case rel=>exact ⟨(oK),(wrap64 (bC+1)),zT,zT,H',⟨by have:=HK1.out;omega⟩,⟨zB⟩⟩
     ·rw [if_neg c4] at H
      exact absurd H (by simp)
    ·rw [if_neg c3] at H
     exact absurd H (by simp)
   ·rw [if_neg c2] at H
    have lS:=decide_eq_false c2
    clear c2
    obtain rfl:=Option.some.inj H
    go_wp2
    go_ret
    exact ⟨zS,zB⟩
end Go.Proofs.YtpondkggmcmpfaaGreatDoor.QA
namespace Go.Proofs.YtpondkggmcmpfaaGreatDoor.QA
open Go.Proofs.YtpondkggmcmpfaaGreatDoor.T
open Go.RowKit Go.Proofs.YtpondkggmcmpfaaGreatDoorW.PrintWords Go.Proofs.YtpondkggmcmpfaaGreatDoorW.PrintLast Go.Proofs.YtpondkggmcmpfaaGreatDoorW.PrintMore
attribute [local go_sem] eG dX dY fF fG
set_option linter.unusedVariables false
set_option linter.unusedSimpArgs false
mutual
def bQ.l0:Nat→Int→Int→List (S67)→Int→List (iL)→List (iL)→Int→Int→Int→Option ((List (S67)))
 | 0,_,_,_,_,_,_,_,_,_=>none
 | k+1,x1,x2,x7,x8,rW,pU,zQ,zU,zV=>if x8 < (pU.length:Int) then (bQ.l1 k x1 x2 x7 x8 0 rW pU zQ zU zV) else (some x7)
def bQ.l1:Nat→Int→Int→List (S67)→Int→Int→List (iL)→List (iL)→Int→Int→Int→Option ((List (S67)))
 | 0,_,_,_,_,_,_,_,_,_,_=>none
 | k+1,x1,x2,x7,x8,x9,rW,pU,zQ,zU,zV=>if x9 < (rW.length:Int) then ((gG.f k pU).bind fun kX=>(if (wrap64 (x9+x1)) > (rW.length:Int) then (bQ.j2 k x1 x2 x7 x8 x9 rW pU zQ zU zV (x7.length:Int) x9 x8 (wrap64 ((rW.length:Int) - x9)) x2 0 0 0 0 kX) else (bQ.j2 k x1 x2 x7 x8 x9 rW pU zQ zU zV (x7.length:Int) x9 x8 x1 x2 0 0 0 0 kX))) else (bQ.l0 k x1 x2 x7 (wrap64 (x8+x2)) rW pU zQ zU zV)
def bQ.j2:Nat→Int→Int→List (S67)→Int→Int→List (iL)→List (iL)→Int→Int→Int→Int→Int→Int→Int→Int→Int→Int→Int→Int→Int→Option ((List (S67)))
 | 0,_,_,_,_,_,_,_,_,_,_,_,_,_,_,_,_,_,_,_,_=>none
 | k+1,x1,x2,x7,x8,x9,rW,pU,zQ,zU,zV,amY,amZ,am0,afQ,am1,aAg,aAh,aAi,aAj,am2=>if (wrap64 (x8+x2)) > (pU.length:Int) then ((aU.f k rW x9 (wrap64 (x9+afQ))).bind fun aor=>((aU.f k pU x8 (wrap64 (x8+(wrap64 ((pU.length:Int) - x8))))).bind fun aos=>(if x7.length < 1759218604441 then (bQ.l1 k x1 x2 (x7 ++ [(⟨amY,amZ,am0,afQ,wrap64 ((pU.length:Int) - x8),aor.1,aos.1,wrap64 (aor.2.1 - aor.1),wrap64 (aos.2.1 - aos.1),am2⟩:S67)]) x8 (wrap64 (x9+x1)) rW pU zQ zU zV) else (none)))) else ((aU.f k rW x9 (wrap64 (x9+afQ))).bind fun aot=>((aU.f k pU x8 (wrap64 (x8+am1))).bind fun aou=>(if x7.length < 1759218604441 then (bQ.l1 k x1 x2 (x7 ++ [(⟨amY,amZ,am0,afQ,am1,aot.1,aou.1,wrap64 (aot.2.1 - aot.1),wrap64 (aou.2.1 - aou.1),am2⟩:S67)]) x8 (wrap64 (x9+x1)) rW pU zQ zU zV) else (none))))
end
def bQ.f (k:Nat) (qH:List (iL)) (kD:List (iL)) (jr jy pV a1 a2:Int):Option ((List (S67))):=bQ.l0 k a1 a2 ([]:List (S67)) 0 qH kD jr jy pV
set_option maxHeartbeats 8000000 in
set_option maxRecDepth 100000 in
theorem bQ.calls (k:Nat) (adf:Option Addr) (adg:Nat) (qH:List (iL)) (aco:Option Addr) (acp:Nat) (kD:List (iL)) (jr jy pV a1 a2:Int) (r:List (S67)) (w:World) (as4:Kd.C wP w adf qH.length qH) (as5:qH.length≤adg) (as6:Kd.C wP w aco kD.length kD) (as7:kD.length≤acp) (h:bQ.f k qH kD jr jy pV a1 a2=some r) :
  Calls Tryz.prog 24 #[.agg #[.slice adf qH.length adg,.slice aco kD.length acp,.int .i64 jr,.int .i64 jy,.int .i64 pV],.int .i64 a1,.int .i64 a2] w fun e w'=>∃ v0_:Value,e = .returned (v0_)∧Kd.R k67 67 w' w.heap.size (fun _=>True) v0_ r∧Below w.heap.size w w':=by
 have aDM:=Tryz.underlying41
 have ayr:=Tryz.underlying67
 have as8:=aj.mk as4
 have as9:=aj.mk as5
 clear as4 as5
 have aov:=aj.mk as6
 have aow:=aj.mk as7
 clear as6 as7
 have HB:=aj.mk (Below.refl w.heap.size w)
 have H:=h
 clear h
 unfold bQ.f at H
 have H':=aj.mk H
 clear H
 go_enter Tryz.func24,Tryz.ntmps24
 go_wp2_with (first|((with_reducible refine bK (N:=3) rfl ?_);refine bJ zR (N:=3) zR (cs := #[.slice adf qH.length adg,.slice aco kD.length acp,.int .i64 jr,.int .i64 jy,.int .i64 pV]) (t:=41) zG ?_;intro ahL hg w4 hbox hb;obtain ⟨HB,iO,aCG,aCH⟩:=zA4 (ak zB hb) hbox (zg hg zB) (zg hg zB);clear hb hbox hg))
 go_loopg [7,8] k (fun kq v7 v8 w'=>∃ (adh:List (S67)) (bC:Int),v8 = .int .i64 bC∧aj (bQ.l0 kq a1 a2 adh bC qH kD jr jy pV=some r)∧aj (kq≤k)∧aj (Kd.R k67 67 w' w.heap.size (fun _=>True) v7 adh)∧aj (w'.heap[ahL]? = some (.cells #[(.slice adf qH.length adg),(.slice aco kD.length acp),.int .i64 jr,.int .i64 jy,.int .i64 pV] 41 (0,0)))∧aj (Below w.heap.size w w'))
 case atStart=>exact ⟨(([]:List (S67))),(0),zT,H',⟨Nat.le_refl _⟩,⟨by first|exact Kd.kS _ _ _ _ _|exact Kd.pz _ _ _ _ _|exact Kd.nM _ _ _ _ _|exact Kd.pF _ _ _ _ _|exact Kd.oH _ _ _ _ _⟩,⟨zK iO⟩,⟨zB⟩⟩
 case round =>
  clear H'
  obtain ⟨adh,bC,rfl,HA,HK1,gX,iO,HB⟩:=hrel
  cases gk with
  | zero=>exact absurd HA.out (by simp [bQ.l0])
  | succ k1 =>
   have H:=HA.out
   clear HA
   simp only [bQ.l0] at H
   by_cases c5:bC < (kD.length:Int)
   ·rw [if_pos c5] at H
    have iR:=decide_eq_true c5
    clear c5
    have H':=aj.mk H
    clear H
    obtain ⟨_,_,_,_,_⟩:=zC5 iO.out
    obtain ⟨_,_,_,_,_⟩:=zF5 iO.out
    go_wp2
    try simp only [Act.put,List.setIfInBounds_toArray,List.set_cons_succ,List.set_cons_zero]
    go_loopg [7,9] k1 (fun kq v7 v9 w'=>∃ (fM:List (S67)) (fE:Int),v9 = .int .i64 fE∧aj (bQ.l1 kq a1 a2 fM bC fE qH kD jr jy pV=some r)∧aj (kq≤k1)∧aj (Kd.R k67 67 w' w.heap.size (fun _=>True) v7 fM)∧aj (w'.heap[ahL]? = some (.cells #[(.slice adf qH.length adg),(.slice aco kD.length acp),.int .i64 jr,.int .i64 jy,.int .i64 pV] 41 (0,0)))∧aj (Below w.heap.size w w'))
    case atStart=>exact ⟨(adh),(0),zT,H',⟨Nat.le_refl _⟩,⟨by (with_reducible repeat (first|apply Kd.aK|apply Kd.aQ|apply Kd.aW));exact gX.out⟩,⟨zK iO⟩,⟨zB⟩⟩
    case round =>
     clear H'
     obtain ⟨fM,fE,rfl,HA,HK2,gX,iO,HB⟩:=hrel
     cases gk with
     | zero=>exact absurd HA.out (by simp [bQ.l1])
     | succ k2 =>
      have H:=HA.out
      clear HA
      simp only [bQ.l1] at H
      by_cases c7:fE < (qH.length:Int)
      ·rw [if_pos c7] at H
       have jI:=decide_eq_true c7
       clear c7
       replace H:=zO H
       obtain ⟨kX,A8,H⟩:=H
       try dsimp only at H
       have HC9:=aj.mk H
       clear H
       obtain ⟨_,_,_,_,_⟩:=zC5 iO.out
       obtain ⟨_,_,_,_,_⟩:=zF5 iO.out
       obtain ⟨als,alu,arv⟩:=Kd.gQ gX.out
       subst arv
       go_upto_if 49 with (first|((with_reducible refine aA (f:=62) rfl ?_);refine aI (some 41) rfl rfl Tryz.func62 (by kernel_rfl) rfl #[.slice aco kD.length acp] rfl zL ?_;(with_reducible refine (gG.calls k2 _ _ kD kX _ ?iE ?iF A8.out).mono ?_);(case iE=>repeat (first|exact (Kd.bI aov.out HB.out)|(with_reducible refine Kd.jd ?_ _)|(with_reducible refine Kd.jo ?_ _)|(with_reducible refine Kd.kC ?_)));(case iF=>exact aow.out);rintro e w12 ⟨rfl,hb⟩;refine ⟨_,rfl,?_⟩;obtain ⟨gX,iO,HB⟩:=zA3 (Kd.ji (by (with_reducible repeat (first|apply Kd.aK|apply Kd.aQ|apply Kd.aW));exact gX.out) hb) (ay (zK iO) hb) (ak zB hb);(try clear hb))|((with_reducible refine bK (N:=10) rfl ?_);refine bJ zR (N:=10) zR (cs := #[.int .i64 0,.int .i64 0,.int .i64 0,.int .i64 0,.int .i64 0,.int .i64 0,.int .i64 0,.int .i64 0,.int .i64 0,.int .i64 0]) (t:=67) zG ?_;intro iY hg w13 hbox hb;obtain ⟨gX,iO,HB,kM,aCI,aCJ,acP,acQ⟩:=zA8 (Kd.ji (Kd.apZ (by (with_reducible repeat (first|apply Kd.aK|apply Kd.aQ|apply Kd.aW));exact gX.out) iY (Nat.le_of_eq hg.symm)) hb) (ay (zK iO) hb) (ak zB hb) hbox (zg hg zB) (zg hg zB) (zl hg (zK iO)) (zr hg (zK iO));clear hb hbox hg;have anM:=acQ.out;have anN:=acP.out;obtain ⟨_,_,_,_,_,_,_,_,_,_⟩:=ac3 kM.out;obtain ⟨_,_,_,_,_,_,_,_,_,_⟩:=ac4 kM.out;obtain ⟨_,_,_,_,_⟩:=zC5 iO.out;obtain ⟨_,_,_,_,_⟩:=zF5 iO.out))
       (try simp only [Act.put,List.setIfInBounds_toArray,List.set_cons_zero,List.set_cons_succ])
       go_cut [] (fun wc=>∃ (kq:Nat) (fD:Int),aj (bQ.j2 kq a1 a2 fM bC fE qH kD jr jy pV (fM.length:Int) fE bC fD a2 0 0 0 0 kX=some r)∧aj (kq≤k2)∧aj (Kd.R k67 67 wc w.heap.size (fun k_=>k_≠iY) (.slice als fM.length alu) fM)∧aj (wc.heap[ahL]? = some (.cells #[(.slice adf qH.length adg),(.slice aco kD.length acp),.int .i64 jr,.int .i64 jy,.int .i64 pV] 41 (0,0)))∧aj (wc.heap[iY]? = some (.cells #[.int .i64 (fM.length:Int),.int .i64 fE,.int .i64 bC,.int .i64 fD,.int .i64 a2,.int .i64 0,.int .i64 0,.int .i64 0,.int .i64 0,.int .i64 kX] 67 (0,0)))∧aj (Below w.heap.size w wc))
       case first =>
        have H:=HC9.out
        clear HC9
        by_cases c17:(wrap64 (fE+a1)) > (qH.length:Int)
        ·rw [if_pos c17] at H
         have ahM:=decide_eq_true c17
         clear c17
         (first|rw [ahM]|(simp only [cZ,dB];rw [ahM])|skip)
         have H':=aj.mk H
         clear H
         have awx:=acP.out
         have awy:=acQ.out
         obtain ⟨_,_,_,_,_⟩:=zC5 iO.out
         obtain ⟨_,_,_,_,_⟩:=zF5 iO.out
         obtain ⟨_,_,_,_,_,_,_,_,_,_⟩:=ac3 kM.out
         obtain ⟨_,_,_,_,_,_,_,_,_,_⟩:=ac4 kM.out
         go_wp2
         go_meet
         case rel=>exact ⟨_,(wrap64 ((qH.length:Int) - fE)),H',⟨by have:=HK1.out;have:=HK2.out;first|omega|exact Nat.le_refl _⟩,⟨by (with_reducible repeat (first|apply Kd.aK|apply Kd.aQ|apply Kd.aW));exact Kd.dM (Kd.jw (p:=⟨iY,3,none⟩) (Kd.jw (p:=⟨iY,9,none⟩) (Kd.jw (p:=⟨iY,8,none⟩) (Kd.jw (p:=⟨iY,7,none⟩) (Kd.jw (p:=⟨iY,6,none⟩) (Kd.jw (p:=⟨iY,5,none⟩) (Kd.jw (p:=⟨iY,4,none⟩) (Kd.jw (p:=⟨iY,3,none⟩) (Kd.jw (p:=⟨iY,2,none⟩) (Kd.jw (p:=⟨iY,1,none⟩) (Kd.jw (p:=⟨iY,0,none⟩) (Kd.dM gX.out (fun k_ hk=>(⟨hk,hk.2⟩:_∧k_≠iY))) (fun _ hk=>hk.2) (.int .i64 (fM.length:Int))) (fun _ hk=>hk.2) (.int .i64 fE)) (fun _ hk=>hk.2) (.int .i64 bC)) (fun _ hk=>hk.2) (.int .i64 a1)) (fun _ hk=>hk.2) (.int .i64 a2)) (fun _ hk=>hk.2) (.int .i64 0)) (fun _ hk=>hk.2) (.int .i64 0)) (fun _ hk=>hk.2) (.int .i64 0)) (fun _ hk=>hk.2) (.int .i64 0)) (fun _ hk=>hk.2) (.int .i64 kX)) (fun _ hk=>hk.2) (.int .i64 (wrap64 ((qH.length:Int) - fE)))) (fun _ hk=>hk.1.2)⟩,⟨zK iO⟩,⟨by refine zD ?_;refine aJ (cs := #[.int .i64 (fM.length:Int),.int .i64 fE,.int .i64 bC,.int .i64 a1,.int .i64 a2,.int .i64 0,.int .i64 0,.int .i64 0,.int .i64 0,.int .i64 kX]) ?_ 3 _ rfl;refine zD ?_;refine aJ (cs := #[.int .i64 (fM.length:Int),.int .i64 fE,.int .i64 bC,.int .i64 a1,.int .i64 a2,.int .i64 0,.int .i64 0,.int .i64 0,.int .i64 0,.int .i64 0]) ?_ 9 _ rfl;refine zD ?_;refine aJ (cs := #[.int .i64 (fM.length:Int),.int .i64 fE,.int .i64 bC,.int .i64 a1,.int .i64 a2,.int .i64 0,.int .i64 0,.int .i64 0,.int .i64 0,.int .i64 0]) ?_ 8 _ rfl;refine zD ?_;refine aJ (cs := #[.int .i64 (fM.length:Int),.int .i64 fE,.int .i64 bC,.int .i64 a1,.int .i64 a2,.int .i64 0,.int .i64 0,.int .i64 0,.int .i64 0,.int .i64 0]) ?_ 7 _ rfl;refine zD ?_;refine aJ (cs := #[.int .i64 (fM.length:Int),.int .i64 fE,.int .i64 bC,.int .i64 a1,.int .i64 a2,.int .i64 0,.int .i64 0,.int .i64 0,.int .i64 0,.int .i64 0]) ?_ 6 _ rfl;refine zD ?_;refine aJ (cs := #[.int .i64 (fM.length:Int),.int .i64 fE,.int .i64 bC,.int .i64 a1,.int .i64 a2,.int .i64 0,.int .i64 0,.int .i64 0,.int .i64 0,.int .i64 0]) ?_ 5 _ rfl;refine zD ?_;refine aJ (cs := #[.int .i64 (fM.length:Int),.int .i64 fE,.int .i64 bC,.int .i64 a1,.int .i64 0,.int .i64 0,.int .i64 0,.int .i64 0,.int .i64 0,.int .i64 0]) ?_ 4 _ rfl;refine zD ?_;refine aJ (cs := #[.int .i64 (fM.length:Int),.int .i64 fE,.int .i64 bC,.int .i64 0,.int .i64 0,.int .i64 0,.int .i64 0,.int .i64 0,.int .i64 0,.int .i64 0]) ?_ 3 _ rfl;refine zD ?_;refine aJ (cs := #[.int .i64 (fM.length:Int),.int .i64 fE,.int .i64 0,.int .i64 0,.int .i64 0,.int .i64 0,.int .i64 0,.int .i64 0,.int .i64 0,.int .i64 0]) ?_ 2 _ rfl;refine zD ?_;refine aJ (cs := #[.int .i64 (fM.length:Int),.int .i64 0,.int .i64 0,.int .i64 0,.int .i64 0,.int .i64 0,.int .i64 0,.int .i64 0,.int .i64 0,.int .i64 0]) ?_ 1 _ rfl;refine zD ?_;refine aJ (cs := #[.int .i64 0,.int .i64 0,.int .i64 0,.int .i64 0,.int .i64 0,.int .i64 0,.int .i64 0,.int .i64 0,.int .i64 0,.int .i64 0]) ?_ 0 _ rfl;refine zD ?_;exact kM.out⟩,⟨zB⟩⟩
        ·rw [if_neg c17] at H
         have ahM:=decide_eq_false c17
         clear c17
         (first|rw [ahM]|(simp only [cZ,dB];rw [ahM])|skip)
         have H':=aj.mk H
         clear H
         go_wp2
         go_meet
         case rel=>exact ⟨_,(a1),H',⟨by have:=HK1.out;have:=HK2.out;first|omega|exact Nat.le_refl _⟩,⟨by (with_reducible repeat (first|apply Kd.aK|apply Kd.aQ|apply Kd.aW));exact Kd.dM (Kd.jw (p:=⟨iY,9,none⟩) (Kd.jw (p:=⟨iY,8,none⟩) (Kd.jw (p:=⟨iY,7,none⟩) (Kd.jw (p:=⟨iY,6,none⟩) (Kd.jw (p:=⟨iY,5,none⟩) (Kd.jw (p:=⟨iY,4,none⟩) (Kd.jw (p:=⟨iY,3,none⟩) (Kd.jw (p:=⟨iY,2,none⟩) (Kd.jw (p:=⟨iY,1,none⟩) (Kd.jw (p:=⟨iY,0,none⟩) (Kd.dM gX.out (fun k_ hk=>(⟨hk,hk.2⟩:_∧k_≠iY))) (fun _ hk=>hk.2) (.int .i64 (fM.length:Int))) (fun _ hk=>hk.2) (.int .i64 fE)) (fun _ hk=>hk.2) (.int .i64 bC)) (fun _ hk=>hk.2) (.int .i64 a1)) (fun _ hk=>hk.2) (.int .i64 a2)) (fun _ hk=>hk.2) (.int .i64 0)) (fun _ hk=>hk.2) (.int .i64 0)) (fun _ hk=>hk.2) (.int .i64 0)) (fun _ hk=>hk.2) (.int .i64 0)) (fun _ hk=>hk.2) (.int .i64 kX)) (fun _ hk=>hk.1.2)⟩,⟨zK iO⟩,⟨by refine zD ?_;refine aJ (cs := #[.int .i64 (fM.length:Int),.int .i64 fE,.int .i64 bC,.int .i64 a1,.int .i64 a2,.int .i64 0,.int .i64 0,.int .i64 0,.int .i64 0,.int .i64 0]) ?_ 9 _ rfl;refine zD ?_;refine aJ (cs := #[.int .i64 (fM.length:Int),.int .i64 fE,.int .i64 bC,.int .i64 a1,.int .i64 a2,.int .i64 0,.int .i64 0,.int .i64 0,.int .i64 0,.int .i64 0]) ?_ 8 _ rfl;refine zD ?_;refine aJ (cs := #[.int .i64 (fM.length:Int),.int .i64 fE,.int .i64 bC,.int .i64 a1,.int .i64 a2,.int .i64 0,.int .i64 0,.int .i64 0,.int .i64 0,.int .i64 0]) ?_ 7 _ rfl;refine zD ?_;refine aJ (cs := #[.int .i64 (fM.length:Int),.int .i64 fE,.int .i64 bC,.int .i64 a1,.int .i64 a2,.int .i64 0,.int .i64 0,.int .i64 0,.int .i64 0,.int .i64 0]) ?_ 6 _ rfl;refine zD ?_;refine aJ (cs := #[.int .i64 (fM.length:Int),.int .i64 fE,.int .i64 bC,.int .i64 a1,.int .i64 a2,.int .i64 0,.int .i64 0,.int .i64 0,.int .i64 0,.int .i64 0]) ?_ 5 _ rfl;refine zD ?_;refine aJ (cs := #[.int .i64 (fM.length:Int),.int .i64 fE,.int .i64 bC,.int .i64 a1,.int .i64 0,.int .i64 0,.int .i64 0,.int .i64 0,.int .i64 0,.int .i64 0]) ?_ 4 _ rfl;refine zD ?_;refine aJ (cs := #[.int .i64 (fM.length:Int),.int .i64 fE,.int .i64 bC,.int .i64 0,.int .i64 0,.int .i64 0,.int .i64 0,.int .i64 0,.int .i64 0,.int .i64 0]) ?_ 3 _ rfl;refine zD ?_;refine aJ (cs := #[.int .i64 (fM.length:Int),.int .i64 fE,.int .i64 0,.int .i64 0,.int .i64 0,.int .i64 0,.int .i64 0,.int .i64 0,.int .i64 0,.int .i64 0]) ?_ 2 _ rfl;refine zD ?_;refine aJ (cs := #[.int .i64 (fM.length:Int),.int .i64 0,.int .i64 0,.int .i64 0,.int .i64 0,.int .i64 0,.int .i64 0,.int .i64 0,.int .i64 0,.int .i64 0]) ?_ 1 _ rfl;refine zD ?_;refine aJ (cs := #[.int .i64 0,.int .i64 0,.int .i64 0,.int .i64 0,.int .i64 0,.int .i64 0,.int .i64 0,.int .i64 0,.int .i64 0,.int .i64 0]) ?_ 0 _ rfl;refine zD ?_;exact kM.out⟩,⟨zB⟩⟩
       case rest =>
        clear HC9
        obtain ⟨kq,fD,HA,HJ8,gX,iO,kM,HB⟩:=hcut
        cases kq with
        | zero=>exact absurd HA.out (by simp [bQ.j2])
        | succ kj8 =>
         have H:=HA.out
         clear HA
         simp only [bQ.j2] at H
         by_cases c21:(wrap64 (bC+a2)) > (kD.length:Int)
         ·rw [if_pos c21] at H
          have aan:=decide_eq_true c21
          clear c21
          replace H:=zO H
          obtain ⟨⟨qR,abG,ays⟩,A22,H⟩:=H
          try dsimp only at H
          replace H:=zO H
          obtain ⟨⟨yc,aff,ayt⟩,A23,H⟩:=H
          try dsimp only at H
          by_cases c24:fM.length < 1759218604441
          ·rw [if_pos c24] at H
           have axa:=aj.mk c24
           clear c24
           obtain ⟨ava,ahN⟩:∃ y_:List (S67),y_=(fM ++ [(⟨(fM.length:Int),fE,bC,fD,wrap64 ((kD.length:Int) - bC),qR,yc,wrap64 (abG - qR),wrap64 (aff - yc),kX⟩:S67)]):=⟨_,rfl⟩
           replace H:(bQ.l1 kj8 a1 a2 ava bC (wrap64 (fE+a1)) qH kD jr jy pV)=some r:=by first|(rw [ahN];with_reducible exact H)|(have H2_:=(Option.bind_some _ _).symm.trans H;rw [ahN];with_reducible exact H2_)|(have H2_:=(Option.bind_some _ _).symm.trans H;with_reducible exact H2_)|with_reducible exact H|(rw [ahN];exact H)|exact H
           have axb:=aj.mk ahN
           clear ahN
           have H':=aj.mk H
           clear H
           have asG:=acP.out
           have asH:=acQ.out
           obtain ⟨_,_,_,_,_⟩:=zC5 iO.out
           obtain ⟨_,_,_,_,_⟩:=zF5 iO.out
           obtain ⟨_,_,_,_,_,_,_,_,_,_⟩:=ac3 kM.out
           obtain ⟨_,_,_,_,_,_,_,_,_,_⟩:=ac4 kM.out
           go_wp2_with (first|((with_reducible refine aA (f:=63) rfl ?_);refine aI (some 77) rfl rfl Tryz.func63 (by kernel_rfl) rfl #[.slice adf qH.length adg,.int .i64 fE,.int .i64 (wrap64 (fE+fD))] rfl zL ?_;(with_reducible refine (aU.calls kj8 _ _ qH fE (wrap64 (fE+fD)) qR abG ays _ ?iE ?iF A22.out).mono ?_);(case iE=>exact Kd.bI as8.out zB);(case iF=>exact as9.out);rintro e w28 ⟨rfl,hb⟩;refine ⟨_,rfl,?_⟩;obtain ⟨gX,iO,kM,HB⟩:=zA4 (Kd.ji (by (with_reducible repeat (first|apply Kd.aK|apply Kd.aQ|apply Kd.aW));exact (Kd.dM (Kd.jw (p:=⟨iY,4,none⟩) (Kd.dM gX.out (fun k_ hk=>(⟨hk,hk⟩:_∧k_≠iY))) (fun _ hk=>hk.2) (.int .i64 (wrap64 ((kD.length:Int) - bC)))) (fun _ h_=>h_.1))) hb) (ay (zK iO) hb) (ay (g:=iY) (o := .cells #[.int .i64 (fM.length:Int),.int .i64 fE,.int .i64 bC,.int .i64 fD,.int .i64 (wrap64 ((kD.length:Int) - bC)),.int .i64 0,.int .i64 0,.int .i64 0,.int .i64 0,.int .i64 kX] 67 (0,0)) (by refine zD ?_;refine aJ (cs := #[.int .i64 (fM.length:Int),.int .i64 fE,.int .i64 bC,.int .i64 fD,.int .i64 a2,.int .i64 0,.int .i64 0,.int .i64 0,.int .i64 0,.int .i64 kX]) ?_ 4 _ rfl;refine zD ?_;exact kM.out) hb) (ak zB hb);(try clear hb);obtain ⟨_,_,_,_,_⟩:=zC5 iO.out;obtain ⟨_,_,_,_,_⟩:=zF5 iO.out;obtain ⟨_,_,_,_,_,_,_,_,_,_⟩:=ac3 kM.out;obtain ⟨_,_,_,_,_,_,_,_,_,_⟩:=ac4 kM.out)|((with_reducible refine aA (f:=63) rfl ?_);refine aI (some 89) rfl rfl Tryz.func63 (by kernel_rfl) rfl #[.slice aco kD.length acp,.int .i64 bC,.int .i64 (wrap64 (bC+(wrap64 ((kD.length:Int) - bC))))] rfl zL ?_;(with_reducible refine (aU.calls kj8 _ _ kD bC (wrap64 (bC+(wrap64 ((kD.length:Int) - bC)))) yc aff ayt _ ?iE ?iF A23.out).mono ?_);(case iE=>repeat (first|exact (Kd.bI aov.out HB.out)|(with_reducible refine Kd.jd ?_ _)|(with_reducible refine Kd.jo ?_ _)|(with_reducible refine Kd.kC ?_)));(case iF=>exact aow.out);rintro e w31 ⟨rfl,hb⟩;refine ⟨_,rfl,?_⟩;obtain ⟨gX,iO,kM,HB⟩:=zA4 (Kd.ji (by (with_reducible repeat (first|apply Kd.aK|apply Kd.aQ|apply Kd.aW));exact gX.out) hb) (ay (zK iO) hb) (ay (zK kM) hb) (ak zB hb);(try clear hb);obtain ⟨_,_,_,_,_,_,_,_,_,_⟩:=ac3 kM.out;obtain ⟨_,_,_,_,_,_,_,_,_,_⟩:=ac4 kM.out)|((with_reducible refine jq (b := .append) (xs := #[.tmp 105,.tmp 107]) rfl ?_);at_builtin;refine Kd.kV k67 (w0:=w) w.heap.size rfl (.tmp 105) (.tmp 107) 61 67 (.agg #[(.int .i64 0),(.int .i64 0),(.int .i64 0),(.int .i64 0),(.int .i64 0),(.int .i64 0),(.int .i64 0),(.int .i64 0),(.int .i64 0),(.int .i64 0)]) 80 rfl Tryz.underlying61 apl rfl (by decide) (by omega) (.slice als fM.length alu) fM (⟨(fM.length:Int),fE,bC,fD,wrap64 ((kD.length:Int) - bC),qR,yc,wrap64 (abG - qR),wrap64 (aff - yc),kX⟩:S67) [.int .i64 (fM.length:Int),.int .i64 fE,.int .i64 bC,.int .i64 fD,.int .i64 (wrap64 ((kD.length:Int) - bC)),.int .i64 qR,.int .i64 yc,.int .i64 (wrap64 (abG - qR)),.int .i64 (wrap64 (aff - yc)),.int .i64 kX] (fun k_=>k_≠iY) (fun _=>False) rfl (by first|(go_simp;done)|(go_simp;rfl)) ?aP (fun _ hk=>hk.elim) ?aF ?aO ?aB ?aS ?aL ?_;(case aP=>exact aiu _ _ _ (⟨(fM.length:Int),fE,bC,fD,wrap64 ((kD.length:Int) - bC),qR,yc,wrap64 (abG - qR),wrap64 (aff - yc),kX⟩:S67));(case aB=>exact zB);(case aF=>exact (fun k_ hk=>Kd.apd (g:=iY) (o := .cells #[.int .i64 (fM.length:Int),.int .i64 fE,.int .i64 bC,.int .i64 fD,.int .i64 (wrap64 ((kD.length:Int) - bC)),.int .i64 qR,.int .i64 yc,.int .i64 (wrap64 (abG - qR)),.int .i64 (wrap64 (aff - yc)),.int .i64 kX] 67 (0,0)) (by refine zD ?_;refine aJ (cs := #[.int .i64 (fM.length:Int),.int .i64 fE,.int .i64 bC,.int .i64 fD,.int .i64 (wrap64 ((kD.length:Int) - bC)),.int .i64 qR,.int .i64 yc,.int .i64 (wrap64 (abG - qR)),.int .i64 0,.int .i64 kX]) ?_ 8 _ rfl;refine zD ?_;refine aJ (cs := #[.int .i64 (fM.length:Int),.int .i64 fE,.int .i64 bC,.int .i64 fD,.int .i64 (wrap64 ((kD.length:Int) - bC)),.int .i64 qR,.int .i64 0,.int .i64 (wrap64 (abG - qR)),.int .i64 0,.int .i64 kX]) ?_ 6 _ rfl;refine zD ?_;refine aJ (cs := #[.int .i64 (fM.length:Int),.int .i64 fE,.int .i64 bC,.int .i64 fD,.int .i64 (wrap64 ((kD.length:Int) - bC)),.int .i64 qR,.int .i64 0,.int .i64 0,.int .i64 0,.int .i64 kX]) ?_ 7 _ rfl;refine zD ?_;refine aJ (cs := #[.int .i64 (fM.length:Int),.int .i64 fE,.int .i64 bC,.int .i64 fD,.int .i64 (wrap64 ((kD.length:Int) - bC)),.int .i64 0,.int .i64 0,.int .i64 0,.int .i64 0,.int .i64 kX]) ?_ 5 _ rfl;refine zD ?_;exact kM.out) k_ hk));(case aO=>exact (by (with_reducible repeat (first|apply Kd.aK|apply Kd.aQ|apply Kd.aW));exact Kd.dM (Kd.jw (p:=⟨iY,8,none⟩) (Kd.jw (p:=⟨iY,6,none⟩) (Kd.jw (p:=⟨iY,7,none⟩) (Kd.jw (p:=⟨iY,5,none⟩) (Kd.dM gX.out (fun k_ hk=>(⟨hk,hk⟩:_∧k_≠iY))) (fun _ hk=>hk.2) (.int .i64 qR)) (fun _ hk=>hk.2) (.int .i64 (wrap64 (abG - qR)))) (fun _ hk=>hk.2) (.int .i64 yc)) (fun _ hk=>hk.2) (.int .i64 (wrap64 (aff - yc)))) (fun _ hk=>hk.1)));(case aS=>exact (bM zB));(case aL=>have:=axa.out;omega);intro aDN w33 ho hb hg hat;rw [← axb.out] at ho;obtain ⟨iO,kM,HB,axc⟩:=zA4 (acB (g:=ahL) (o := .cells #[.slice adf qH.length adg,.slice aco kD.length acp,.int .i64 jr,.int .i64 jy,.int .i64 pV] 41 (0,0)) (zK iO) hg (Kd.auk gX.out iO.out (by decide))) (acB (g:=iY) (o := .cells #[.int .i64 (fM.length:Int),.int .i64 fE,.int .i64 bC,.int .i64 fD,.int .i64 (wrap64 ((kD.length:Int) - bC)),.int .i64 qR,.int .i64 yc,.int .i64 (wrap64 (abG - qR)),.int .i64 (wrap64 (aff - yc)),.int .i64 kX] 67 (0,0)) (by refine zD ?_;refine aJ (cs := #[.int .i64 (fM.length:Int),.int .i64 fE,.int .i64 bC,.int .i64 fD,.int .i64 (wrap64 ((kD.length:Int) - bC)),.int .i64 qR,.int .i64 yc,.int .i64 (wrap64 (abG - qR)),.int .i64 0,.int .i64 kX]) ?_ 8 _ rfl;refine zD ?_;refine aJ (cs := #[.int .i64 (fM.length:Int),.int .i64 fE,.int .i64 bC,.int .i64 fD,.int .i64 (wrap64 ((kD.length:Int) - bC)),.int .i64 qR,.int .i64 0,.int .i64 (wrap64 (abG - qR)),.int .i64 0,.int .i64 kX]) ?_ 6 _ rfl;refine zD ?_;refine aJ (cs := #[.int .i64 (fM.length:Int),.int .i64 fE,.int .i64 bC,.int .i64 fD,.int .i64 (wrap64 ((kD.length:Int) - bC)),.int .i64 qR,.int .i64 0,.int .i64 0,.int .i64 0,.int .i64 kX]) ?_ 7 _ rfl;refine zD ?_;refine aJ (cs := #[.int .i64 (fM.length:Int),.int .i64 fE,.int .i64 bC,.int .i64 fD,.int .i64 (wrap64 ((kD.length:Int) - bC)),.int .i64 0,.int .i64 0,.int .i64 0,.int .i64 0,.int .i64 kX]) ?_ 5 _ rfl;refine zD ?_;exact kM.out) hg (Kd.apb gX.out (fun _ hk=>hk))) hb ho;clear ho hb hg hat))
           go_roundg kj8
           case measure=>have:=HK1.out;have:=HK2.out;have:=HJ8.out;omega
           case rel=>exact ⟨(ava),(wrap64 (fE+a1)),zT,H',⟨by have:=HK1.out;have:=HK2.out;have:=HJ8.out;omega⟩,⟨by (with_reducible repeat (first|apply Kd.aK|apply Kd.aQ|apply Kd.aW));exact Kd.dM axc.out (fun _ hk=>trivial)⟩,⟨zK iO⟩,⟨zB⟩⟩
          ·rw [if_neg c24] at H
           exact absurd H (by simp)
         ·rw [if_neg c21] at H
          have aan:=decide_eq_false c21
          clear c21
          replace H:=zO H
          obtain ⟨⟨qU,abH,ayu⟩,A34,H⟩:=H
          try dsimp only at H
          replace H:=zO H
          obtain ⟨⟨yg,afg,ayv⟩,A35,H⟩:=H
          try dsimp only at H
          by_cases c36:fM.length < 1759218604441
          ·rw [if_pos c36] at H
           have axd:=aj.mk c36
           clear c36
           obtain ⟨avb,ahO⟩:∃ y_:List (S67),y_=(fM ++ [(⟨(fM.length:Int),fE,bC,fD,a2,qU,yg,wrap64 (abH - qU),wrap64 (afg - yg),kX⟩:S67)]):=⟨_,rfl⟩
           replace H:(bQ.l1 kj8 a1 a2 avb bC (wrap64 (fE+a1)) qH kD jr jy pV)=some r:=by first|(rw [ahO];with_reducible exact H)|(have H2_:=(Option.bind_some _ _).symm.trans H;rw [ahO];with_reducible exact H2_)|(have H2_:=(Option.bind_some _ _).symm.trans H;with_reducible exact H2_)|with_reducible exact H|(rw [ahO];exact H)|exact H
           have axe:=aj.mk ahO
           clear ahO
           have H':=aj.mk H
           clear H
           have awu:=acP.out
           have awv:=acQ.out
           obtain ⟨_,_,_,_,_⟩:=zC5 iO.out
           obtain ⟨_,_,_,_,_⟩:=zF5 iO.out
           obtain ⟨_,_,_,_,_,_,_,_,_,_⟩:=ac3 kM.out
           obtain ⟨_,_,_,_,_,_,_,_,_,_⟩:=ac4 kM.out
           go_wp2_with (first|((with_reducible refine aA (f:=63) rfl ?_);refine aI (some 77) rfl rfl Tryz.func63 (by kernel_rfl) rfl #[.slice adf qH.length adg,.int .i64 fE,.int .i64 (wrap64 (fE+fD))] rfl zL ?_;(with_reducible refine (aU.calls kj8 _ _ qH fE (wrap64 (fE+fD)) qU abH ayu _ ?iE ?iF A34.out).mono ?_);(case iE=>repeat (first|exact (Kd.bI as8.out HB.out)|(with_reducible refine Kd.jd ?_ _)|(with_reducible refine Kd.jo ?_ _)|(with_reducible refine Kd.kC ?_)));(case iF=>exact as9.out);rintro e w40 ⟨rfl,hb⟩;refine ⟨_,rfl,?_⟩;obtain ⟨gX,iO,kM,HB⟩:=zA4 (Kd.ji (by (with_reducible repeat (first|apply Kd.aK|apply Kd.aQ|apply Kd.aW));exact gX.out) hb) (ay (zK iO) hb) (ay (zK kM) hb) (ak zB hb);(try clear hb);obtain ⟨_,_,_,_,_⟩:=zC5 iO.out;obtain ⟨_,_,_,_,_⟩:=zF5 iO.out;obtain ⟨_,_,_,_,_,_,_,_,_,_⟩:=ac3 kM.out;obtain ⟨_,_,_,_,_,_,_,_,_,_⟩:=ac4 kM.out)|((with_reducible refine aA (f:=63) rfl ?_);refine aI (some 89) rfl rfl Tryz.func63 (by kernel_rfl) rfl #[.slice aco kD.length acp,.int .i64 bC,.int .i64 (wrap64 (bC+a2))] rfl zL ?_;(with_reducible refine (aU.calls kj8 _ _ kD bC (wrap64 (bC+a2)) yg afg ayv _ ?iE ?iF A35.out).mono ?_);(case iE=>repeat (first|exact (Kd.bI aov.out HB.out)|(with_reducible refine Kd.jd ?_ _)|(with_reducible refine Kd.jo ?_ _)|(with_reducible refine Kd.kC ?_)));(case iF=>exact aow.out);rintro e w43 ⟨rfl,hb⟩;refine ⟨_,rfl,?_⟩;obtain ⟨gX,iO,kM,HB⟩:=zA4 (Kd.ji (by (with_reducible repeat (first|apply Kd.aK|apply Kd.aQ|apply Kd.aW));exact gX.out) hb) (ay (zK iO) hb) (ay (zK kM) hb) (ak zB hb);(try clear hb);obtain ⟨_,_,_,_,_,_,_,_,_,_⟩:=ac3 kM.out;obtain ⟨_,_,_,_,_,_,_,_,_,_⟩:=ac4 kM.out)|((with_reducible refine jq (b := .append) (xs := #[.tmp 105,.tmp 107]) rfl ?_);at_builtin;refine Kd.kV k67 (w0:=w) w.heap.size rfl (.tmp 105) (.tmp 107) 61 67 (.agg #[(.int .i64 0),(.int .i64 0),(.int .i64 0),(.int .i64 0),(.int .i64 0),(.int .i64 0),(.int .i64 0),(.int .i64 0),(.int .i64 0),(.int .i64 0)]) 80 rfl Tryz.underlying61 apl rfl (by decide) (by omega) (.slice als fM.length alu) fM (⟨(fM.length:Int),fE,bC,fD,a2,qU,yg,wrap64 (abH - qU),wrap64 (afg - yg),kX⟩:S67) [.int .i64 (fM.length:Int),.int .i64 fE,.int .i64 bC,.int .i64 fD,.int .i64 a2,.int .i64 qU,.int .i64 yg,.int .i64 (wrap64 (abH - qU)),.int .i64 (wrap64 (afg - yg)),.int .i64 kX] (fun k_=>k_≠iY) (fun _=>False) rfl (by first|(go_simp;done)|(go_simp;rfl)) ?aP (fun _ hk=>hk.elim) ?aF ?aO ?aB ?aS ?aL ?_;(case aP=>exact aiu _ _ _ (⟨(fM.length:Int),fE,bC,fD,a2,qU,yg,wrap64 (abH - qU),wrap64 (afg - yg),kX⟩:S67));(case aB=>exact zB);(case aF=>exact (fun k_ hk=>Kd.apd (g:=iY) (o := .cells #[.int .i64 (fM.length:Int),.int .i64 fE,.int .i64 bC,.int .i64 fD,.int .i64 a2,.int .i64 qU,.int .i64 yg,.int .i64 (wrap64 (abH - qU)),.int .i64 (wrap64 (afg - yg)),.int .i64 kX] 67 (0,0)) (by refine zD ?_;refine aJ (cs := #[.int .i64 (fM.length:Int),.int .i64 fE,.int .i64 bC,.int .i64 fD,.int .i64 a2,.int .i64 qU,.int .i64 yg,.int .i64 (wrap64 (abH - qU)),.int .i64 0,.int .i64 kX]) ?_ 8 _ rfl;refine zD ?_;refine aJ (cs := #[.int .i64 (fM.length:Int),.int .i64 fE,.int .i64 bC,.int .i64 fD,.int .i64 a2,.int .i64 qU,.int .i64 0,.int .i64 (wrap64 (abH - qU)),.int .i64 0,.int .i64 kX]) ?_ 6 _ rfl;refine zD ?_;refine aJ (cs := #[.int .i64 (fM.length:Int),.int .i64 fE,.int .i64 bC,.int .i64 fD,.int .i64 a2,.int .i64 qU,.int .i64 0,.int .i64 0,.int .i64 0,.int .i64 kX]) ?_ 7 _ rfl;refine zD ?_;refine aJ (cs := #[.int .i64 (fM.length:Int),.int .i64 fE,.int .i64 bC,.int .i64 fD,.int .i64 a2,.int .i64 0,.int .i64 0,.int .i64 0,.int .i64 0,.int .i64 kX]) ?_ 5 _ rfl;refine zD ?_;exact kM.out) k_ hk));(case aO=>exact (by (with_reducible repeat (first|apply Kd.aK|apply Kd.aQ|apply Kd.aW));exact Kd.dM (Kd.jw (p:=⟨iY,8,none⟩) (Kd.jw (p:=⟨iY,6,none⟩) (Kd.jw (p:=⟨iY,7,none⟩) (Kd.jw (p:=⟨iY,5,none⟩) (Kd.dM gX.out (fun k_ hk=>(⟨hk,hk⟩:_∧k_≠iY))) (fun _ hk=>hk.2) (.int .i64 qU)) (fun _ hk=>hk.2) (.int .i64 (wrap64 (abH - qU)))) (fun _ hk=>hk.2) (.int .i64 yg)) (fun _ hk=>hk.2) (.int .i64 (wrap64 (afg - yg)))) (fun _ hk=>hk.1)));(case aS=>exact (bM zB));(case aL=>have:=axd.out;omega);intro aDO w45 ho hb hg hat;rw [← axe.out] at ho;obtain ⟨iO,kM,HB,axf⟩:=zA4 (acB (g:=ahL) (o := .cells #[.slice adf qH.length adg,.slice aco kD.length acp,.int .i64 jr,.int .i64 jy,.int .i64 pV] 41 (0,0)) (zK iO) hg (Kd.auk gX.out iO.out (by decide))) (acB (g:=iY) (o := .cells #[.int .i64 (fM.length:Int),.int .i64 fE,.int .i64 bC,.int .i64 fD,.int .i64 a2,.int .i64 qU,.int .i64 yg,.int .i64 (wrap64 (abH - qU)),.int .i64 (wrap64 (afg - yg)),.int .i64 kX] 67 (0,0)) (by refine zD ?_;refine aJ (cs := #[.int .i64 (fM.length:Int),.int .i64 fE,.int .i64 bC,.int .i64 fD,.int .i64 a2,.int .i64 qU,.int .i64 yg,.int .i64 (wrap64 (abH - qU)),.int .i64 0,.int .i64 kX]) ?_ 8 _ rfl;refine zD ?_;refine aJ (cs := #[.int .i64 (fM.length:Int),.int .i64 fE,.int .i64 bC,.int .i64 fD,.int .i64 a2,.int .i64 qU,.int .i64 0,.int .i64 (wrap64 (abH - qU)),.int .i64 0,.int .i64 kX]) ?_ 6 _ rfl;refine zD ?_;refine aJ (cs := #[.int .i64 (fM.length:Int),.int .i64 fE,.int .i64 bC,.int .i64 fD,.int .i64 a2,.int .i64 qU,.int .i64 0,.int .i64 0,.int .i64 0,.int .i64 kX]) ?_ 7 _ rfl;refine zD ?_;refine aJ (cs := #[.int .i64 (fM.length:Int),.int .i64 fE,.int .i64 bC,.int .i64 fD,.int .i64 a2,.int .i64 0,.int .i64 0,.int .i64 0,.int .i64 0,.int .i64 kX]) ?_ 5 _ rfl;refine zD ?_;exact kM.out) hg (Kd.apb gX.out (fun _ hk=>hk))) hb ho;clear ho hb hg hat))
           go_roundg kj8
           case measure=>have:=HK1.out;have:=HK2.out;have:=HJ8.out;omega
           case rel=>exact ⟨(avb),(wrap64 (fE+a1)),zT,H',⟨by have:=HK1.out;have:=HK2.out;have:=HJ8.out;omega⟩,⟨by (with_reducible repeat (first|apply Kd.aK|apply Kd.aQ|apply Kd.aW));exact Kd.dM axf.out (fun _ hk=>trivial)⟩,⟨zK iO⟩,⟨zB⟩⟩
          ·rw [if_neg c36] at H
           exact absurd H (by simp)
      ·rw [if_neg c7] at H
       have jI:=decide_eq_false c7
       clear c7
       have H':=aj.mk H
       clear H
       obtain ⟨_,_,_,_,_⟩:=zC5 iO.out
       obtain ⟨_,_,_,_,_⟩:=zF5 iO.out
       go_wp2
       go_roundg k2
       case measure=>have:=HK1.out;have:=HK2.out;omega
       case rel=>exact ⟨(fM),(wrap64 (bC+a2)),zT,H',⟨by have:=HK1.out;have:=HK2.out;omega⟩,⟨by (with_reducible repeat (first|apply Kd.aK|apply Kd.aQ|apply Kd.aW));exact gX.out⟩,⟨zK iO⟩,⟨zB⟩⟩
   ·rw [if_neg c5] at H
    have iR:=decide_eq_false c5
    clear c5
    obtain rfl:=Option.some.inj H
    obtain ⟨_,_,_,_,_⟩:=zC5 iO.out
    obtain ⟨_,_,_,_,_⟩:=zF5 iO.out
    go_wp2
    go_ret
    exact ⟨_,zS,by (with_reducible repeat (first|apply Kd.aK|apply Kd.aQ|apply Kd.aW));exact gX.out,zB⟩
end Go.Proofs.YtpondkggmcmpfaaGreatDoor.QA
namespace Go.Proofs.YtpondkggmcmpfaaGreatDoor.QA
open Go.Proofs.YtpondkggmcmpfaaGreatDoor.T
open Go.RowKit Go.Proofs.YtpondkggmcmpfaaGreatDoorW.PrintWords Go.Proofs.YtpondkggmcmpfaaGreatDoorW.PrintLast Go.Proofs.YtpondkggmcmpfaaGreatDoorW.PrintMore
attribute [local go_sem] eG dX dY fF fG
set_option linter.unusedVariables false
set_option linter.unusedSimpArgs false
def xC.f (bH cO jr jy pV adi o8 oJ pJ aiR:Int):Option (Int × Int × Int × Int × Int × Int × Int × Int × Int × Int):=some (bH,cO,jr,jy,pV,adi,o8,oJ,pJ,aiR)
set_option maxHeartbeats 8000000 in
set_option maxRecDepth 100000 in
theorem xC.calls (bH cO jr jy pV adi o8 oJ pJ aiR r1 r2 r3 r4 r5 r6 r7 r8 r9 r10:Int) (w:World) (h:xC.f bH cO jr jy pV adi o8 oJ pJ aiR=some (r1,r2,r3,r4,r5,r6,r7,r8,r9,r10)) :
  Calls Tryz.prog 28 #[.agg #[.int .i64 bH,.int .i64 cO,.int .i64 jr,.int .i64 jy,.int .i64 pV,.int .i64 adi,.int .i64 o8,.int .i64 oJ,.int .i64 pJ,.int .i64 aiR]] w fun e w'=>e = .returned (.agg #[.int .i64 r1,.int .i64 r2,.int .i64 r3,.int .i64 r4,.int .i64 r5,.int .i64 r6,.int .i64 r7,.int .i64 r8,.int .i64 r9,.int .i64 r10])∧Below w.heap.size w w':=by
 have aDP:=Tryz.underlying58
 have ayr:=Tryz.underlying67
 have HB:=aj.mk (Below.refl w.heap.size w)
 have H:=h
 clear h
 unfold xC.f at H
 simp only [Option.some.injEq,Prod.mk.injEq] at H
 obtain ⟨rfl,rfl,rfl,rfl,rfl,rfl,rfl,rfl,rfl,rfl⟩:=H
 go_enter Tryz.func28,Tryz.ntmps28
 go_wp2_with (first|((with_reducible refine bK (N:=1) rfl ?_);refine bJ zR (N:=1) zR (cs := #[.int .i64 bH,.int .i64 cO,.int .i64 jr,.int .i64 jy,.int .i64 pV,.int .i64 adi,.int .i64 o8,.int .i64 oJ,.int .i64 pJ,.int .i64 aiR]) (t:=58) zG ?_;intro aCK hg w2 hbox hb;obtain ⟨HB,afR,aCL,aCM⟩:=zA4 (ak zB hb) hbox (zg hg zB) (zg hg zB);clear hb hbox hg)|((with_reducible refine bK (N:=2) rfl ?_);refine bJ zR (N:=2) zR (cs := #[.int .i64 0,.int .i64 0,.int .i64 0,.int .i64 0,.int .i64 0,.int .i64 0,.int .i64 0,.int .i64 0,.int .i64 0,.int .i64 0]) (t:=67) zG ?_;intro axg hg w3 hbox hb;obtain ⟨afR,HB,aox,aCN,aCO,apE,apF⟩:=zA7 (ay (zK afR) hb) (ak zB hb) hbox (zg hg zB) (zg hg zB) (zl hg (zK afR)) (zr hg (zK afR));clear hb hbox hg;have aDQ:=apE.out;have aDR:=apF.out;obtain ⟨_,_,_,_,_,_,_,_,_,_⟩:=ac3 afR.out;obtain ⟨_,_,_,_,_,_,_,_,_,_⟩:=ac4 afR.out;obtain ⟨_,_,_,_,_,_,_,_,_,_⟩:=ac3 aox.out;obtain ⟨_,_,_,_,_,_,_,_,_,_⟩:=ac4 aox.out))
 refine bodyPost_ret (results_cell_row rfl _ _ axg 67 #[.int .i64 bH,.int .i64 cO,.int .i64 jr,.int .i64 jy,.int .i64 pV,.int .i64 adi,.int .i64 o8,.int .i64 oJ,.int .i64 pJ,.int .i64 aiR] (0,0) _ rfl (by refine zD ?_;refine aJ (cs := #[.int .i64 bH,.int .i64 cO,.int .i64 jr,.int .i64 jy,.int .i64 pV,.int .i64 adi,.int .i64 o8,.int .i64 oJ,.int .i64 pJ,.int .i64 0]) ?_ 9 _ rfl;refine zD ?_;refine aJ (cs := #[.int .i64 bH,.int .i64 cO,.int .i64 jr,.int .i64 jy,.int .i64 pV,.int .i64 adi,.int .i64 o8,.int .i64 oJ,.int .i64 0,.int .i64 0]) ?_ 8 _ rfl;refine zD ?_;refine aJ (cs := #[.int .i64 bH,.int .i64 cO,.int .i64 jr,.int .i64 jy,.int .i64 pV,.int .i64 adi,.int .i64 o8,.int .i64 0,.int .i64 0,.int .i64 0]) ?_ 7 _ rfl;refine zD ?_;refine aJ (cs := #[.int .i64 bH,.int .i64 cO,.int .i64 jr,.int .i64 jy,.int .i64 pV,.int .i64 adi,.int .i64 0,.int .i64 0,.int .i64 0,.int .i64 0]) ?_ 6 _ rfl;refine zD ?_;refine aJ (cs := #[.int .i64 bH,.int .i64 cO,.int .i64 jr,.int .i64 jy,.int .i64 pV,.int .i64 0,.int .i64 0,.int .i64 0,.int .i64 0,.int .i64 0]) ?_ 5 _ rfl;refine zD ?_;refine aJ (cs := #[.int .i64 bH,.int .i64 cO,.int .i64 jr,.int .i64 jy,.int .i64 0,.int .i64 0,.int .i64 0,.int .i64 0,.int .i64 0,.int .i64 0]) ?_ 4 _ rfl;refine zD ?_;refine aJ (cs := #[.int .i64 bH,.int .i64 cO,.int .i64 jr,.int .i64 0,.int .i64 0,.int .i64 0,.int .i64 0,.int .i64 0,.int .i64 0,.int .i64 0]) ?_ 3 _ rfl;refine zD ?_;refine aJ (cs := #[.int .i64 bH,.int .i64 cO,.int .i64 0,.int .i64 0,.int .i64 0,.int .i64 0,.int .i64 0,.int .i64 0,.int .i64 0,.int .i64 0]) ?_ 2 _ rfl;refine zD ?_;refine aJ (cs := #[.int .i64 bH,.int .i64 0,.int .i64 0,.int .i64 0,.int .i64 0,.int .i64 0,.int .i64 0,.int .i64 0,.int .i64 0,.int .i64 0]) ?_ 1 _ rfl;refine zD ?_;refine aJ (cs := #[.int .i64 0,.int .i64 0,.int .i64 0,.int .i64 0,.int .i64 0,.int .i64 0,.int .i64 0,.int .i64 0,.int .i64 0,.int .i64 0]) ?_ 0 _ rfl;refine zD ?_;exact aox.out) Tryz.underlying67 rfl (by kernel_rfl)) rfl ?_
 exact ⟨zS,zB⟩
end Go.Proofs.YtpondkggmcmpfaaGreatDoor.QA
namespace Go.Proofs.YtpondkggmcmpfaaGreatDoor.T
open Go.ChangeShapes Go.WideShapes Go.ChangeAt Go.RowKit
theorem apG:Tryz.prog.globalNamed "smalto/raw.kinds"=some 1:=by kernel_rfl
theorem avc:(Tryz.prog.globals[1]?).map (·.type)=some 188:=by kernel_rfl
theorem cell_of {cs:List Value} {a b i:Nat} {v:Value} {ws:List Value} (hi:i < b) (h:((cs.drop a).take b)=ws) (hv:ws[i]? = some v):cs[a+i]? = some v:=by
  rw [← h] at hv
  rw [List.getElem?_take,if_pos hi,List.getElem?_drop] at hv
  exact hv
theorem str_eq {s:ByteArray} {l:List UInt8} (h:s.data.toList=l):s=⟨l.toArray⟩:=by
  cases s with|mk d=>simp only at h;rw [← h]
theorem ad7 {W:World} {m:Nat} {cs:List Value} {s:List UInt8} {n:Int} {x:DataW Unit × List MemPlace}
    (h:DataW.trod (fun _=>()) Tryz.prog W 0 (fun _=>true) false m 187 cs=some x) (hx:x.1 = .agg [.lit (.string s),.lit (.int .i64 n)]) :
    cs[0]? = some (.string ⟨s.toArray⟩)∧cs[1]? = some (.int .i64 n):=by
  obtain ⟨y0,y1,k,rfl,hl,h0,h1⟩:=trod_struct2 Tryz.underlying187 h
  simp only [DataW.agg.injEq,List.cons.injEq,and_true] at hx
  obtain ⟨z,e0,e1,_⟩:=DataW.trod_string Tryz.underlying9 h0
  obtain ⟨q,f0,f1,_⟩:=DataW.trod_int Tryz.underlying2 h1
  rw [e1,f1] at hx
  simp only [DataW.lit.injEq,Lit.string.injEq,Lit.int.injEq,true_and] at hx
  obtain ⟨hs,rfl⟩:=hx
  rw [str_eq hs] at e0
  constructor
  · simpa using cell_of (i:=0) (of_decide_eq_true (by kernel_rfl)) e0 rfl
  · simpa using cell_of (i:=0) (of_decide_eq_true (by kernel_rfl)) f0 rfl
set_option maxRecDepth 100000 in
theorem amu {W:World} {fuel:Nat} {cs:Array Value} {x:DataW Unit × List MemPlace} (hv:W.var? Tryz.prog "smalto/raw.kinds"=some cs)
    (h:DataW.trod (fun _=>()) Tryz.prog W 0 (fun _=>true) false fuel 188 cs.toList=some x) (hx:x.1=Rows.laid_smalto_raw_kinds):W.cell? ⟨1,0,none⟩=some (.string (⟨#[98,111,120]⟩:ByteArray))∧W.cell? ⟨1,1,none⟩=some (.int .i64 0)∧W.cell? ⟨1,2,none⟩=some (.string (⟨#[99,117,98,105,99]⟩:ByteArray))∧W.cell? ⟨1,3,none⟩=some (.int .i64 2)∧W.cell? ⟨1,4,none⟩=some (.string (⟨#[108,97,110,99,122,111,115]⟩:ByteArray))∧W.cell? ⟨1,5,none⟩=some (.int .i64 3):=by
  obtain ⟨xs,m,_,rfl,hl,hlen,hel⟩:=DataW.trod_array Tryz.underlying188 h
  have c2:Tryz.prog.cellsOf 187=2:=by kernel_rfl
  match xs,hlen with
  | [x0,x1,x2],_ =>
    have hx':=hx
    simp only [Rows.laid_smalto_raw_kinds,List.map_cons,List.map_nil,DataW.agg.injEq,List.cons.injEq,and_true] at hx'
    obtain ⟨k0,k1,k2⟩:=hx'
    have g0:=ad7 (hel 0 (by decide)) k0
    have g1:=ad7 (hel 1 (by decide)) k1
    have g2:=ad7 (hel 2 (by decide)) k2
    rw [c2] at g0 g1 g2
    simp only [List.getElem?_take,List.getElem?_drop] at g0 g1 g2
    simp at g0 g1 g2
    simp only [World.var?_cell apG hv]
    exact ⟨g0.1,g0.2,g1.1,g1.2,g2.1,g2.2⟩
theorem apH:Tryz.prog.globalNamed "smalto/border.names"=some 0:=by kernel_rfl
theorem avd:(Tryz.prog.globals[0]?).map (·.type)=some 162:=by kernel_rfl
theorem agQ {W:World} {v:Value} {n:Nat} {q:List MemPlace} {s:List UInt8} (h:DataW.trod (fun _=>()) Tryz.prog W 0 (fun _=>true) false n 9 [v]=some (.lit (.string s),q)):v = .string ⟨s.toArray⟩:=by
  obtain ⟨z,e0,e1,_⟩:=DataW.trod_string Tryz.underlying9 h
  simp only [Prod.mk.injEq,DataW.lit.injEq,Lit.string.injEq] at e1
  rw [str_eq e1.1.symm] at e0
  simpa using e0
theorem amv {W:World} {fuel:Nat} {cs:Array Value} {x:DataW Unit × List MemPlace} (hv:W.var? Tryz.prog "smalto/border.names"=some cs)
    (h:DataW.trod (fun _=>()) Tryz.prog W 0 (fun _=>true) false fuel 162 cs.toList=some x) (hx:x.1=Rows.laid_smalto_border_names) :
    ∃ (a:Addr) (c:Nat),3≤c∧W.cell? ⟨0,0,none⟩=some (.slice (some a) 3 c)∧W.cell? a=some (.string (⟨#[99,108,97,109,112]⟩:ByteArray))∧W.cell? ⟨a.block,a.off+1,none⟩=some (.string (⟨#[109,105,114,114,111,114]⟩:ByteArray))∧W.cell? ⟨a.block,a.off+2,none⟩=some (.string (⟨#[119,114,97,112]⟩:ByteArray)):=by
  obtain ⟨d,p⟩:=x
  simp only at hx
  subst hx
  obtain ⟨a,cap,e,hl,hc⟩:=open_row Tryz.underlying162 (show Tryz.prog.cellsOf 9=1 by kernel_rfl) h
  obtain ⟨v0,n0,q0,c0,t0⟩:=hc 0 _ rfl
  obtain ⟨v1,n1,q1,c1,t1⟩:=hc 1 _ rfl
  obtain ⟨v2,n2,q2,c2,t2⟩:=hc 2 _ rfl
  rw [agQ t0] at c0
  rw [agQ t1] at c1
  rw [agQ t2] at c2
  have e0:a.add 0=a:=by cases a;rfl
  rw [e0] at c0
  have ec:cs[0]? = some (.slice (some a) 3 cap):=by
    have:=congrArg (fun l=>l[0]?) e
    simpa using this
  exact ⟨a,cap,hl,by rw [World.var?_cell apH hv];exact ec,c0,c1,c2⟩
theorem am9 {W:World} (h:laidMetH Tryz.prog [("smalto/border.names",Rows.laid_smalto_border_names),("smalto/raw.kinds",Rows.laid_smalto_raw_kinds)] W):GL W:=by
  rw [MakeChecks.laidMetH_plain _ _ _ (by kernel_rfl)] at h
  obtain ⟨ps,⟨g,t,cs,fuel,p,q,hg,ht,hv,hd,⟨g2,t2,cs2,fuel2,p2,q2,hg2,ht2,hv2,hd2,_,_⟩,_⟩,_,_⟩:=h
  obtain rfl:=Option.some.inj (apH.symm.trans hg)
  obtain rfl:=Option.some.inj (avd.symm.trans ht)
  obtain rfl:=Option.some.inj (apG.symm.trans hg2)
  obtain rfl:=Option.some.inj (avc.symm.trans ht2)
  exact ⟨amu hv2 hd2 rfl,amv hv hd rfl⟩
theorem aks (os:Os) (args:Array Value):laidMetH Tryz.prog [("smalto/border.names",Rows.laid_smalto_border_names),("smalto/raw.kinds",Rows.laid_smalto_raw_kinds)] ((World.laidAll Tryz.prog os [("smalto/border.names",Rows.laid_smalto_border_names),("smalto/raw.kinds",Rows.laid_smalto_raw_kinds)]).forCall (fun _ _=>0) ⟨#[],args,[]⟩).memory:=by
  rw [MakeChecks.laidMetH_plain _ _ _ (by kernel_rfl)]
  exact laidMet_laidAll _ (by kernel_rfl) (by kernel_rfl)
end Go.Proofs.YtpondkggmcmpfaaGreatDoor.T
namespace Go.Proofs.YtpondkggmcmpfaaGreatDoorW.PrintWords
open Go.ChangeShapes Go.WideShapes
end Go.Proofs.YtpondkggmcmpfaaGreatDoorW.PrintWords
