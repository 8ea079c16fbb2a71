/- Joined by wip/tools/bundle.py out of: QAx36 QAx37 QAx38 QAx39 QAx40 QAx41 QAx43 QAx42 QAx44 QAx45. -/
import Derived.Test.YtpondkggmcmpfaaGreatDoorBPlanReaches0
import Derived.Test.YtpondkggmcmpfaaGreatDoorBPlanReaches1
import Derived.Test.YtpondkggmcmpfaaGreatDoorBPlanReaches13
import Derived.Test.YtpondkggmcmpfaaGreatDoorBPlanReaches7
import Derived.Test.YtpondkggmcmpfaaGreatDoorBPlanReaches12
namespace Go.Proofs.YtpondkggmcmpfaaGreatDoor.QA
open Go.Proofs.YtpondkggmcmpfaaGreatDoor.T
open Go.RowKit Go.Proofs.YtpondkggmcmpfaaGreatDoorW.PrintWords Go.Proofs.YtpondkggmcmpfaaGreatDoorW.PrintLast Go.Proofs.YtpondkggmcmpfaaGreatDoorW.PrintMore
attribute [local go_sem] dV dQ dR eP eX
set_option linter.unusedVariables false
set_option linter.unusedSimpArgs false
mutual
def aG.j0:Nat→List Int→Bool→Option (List Int × Int)
 | 0,_,_=>none
 | k+1,x0,x22=>if x22=true then (some (([]:List Int),7)) else (aG.l0 k x0 x0 (x0.length:Int) 0)
def aG.l0:Nat→List Int→List Int→Int→Int→Option (List Int × Int)
 | 0,_,_,_,_=>none
 | k+1,x0,x23,x24,x25=>if x25 < x24 then (if 0≤x25 then (if x25 < (x23.length:Int) then ((iF.f (rd x23 x25)).bind fun ac1=>(if ac1 > 1099511627776 then (some (([]:List Int),7)) else (aG.l0 k x0 x23 x24 (wrap64 (x25+1))))) else (none)) else (none)) else ((eG.f k x0).bind fun pU=>(if pU < 268435456 then (some (([]:List Int),8)) else (aG.l1 k pU ([]:List Int) ([]:List Int) 16384 x0 (x0.length:Int) 0)))
def aG.l1:Nat→Int→List Int→List Int→Int→List Int→Int→Int→Option (List Int × Int)
 | 0,_,_,_,_,_,_,_=>none
 | k+1,x6,x7,x8,x9,x37,x38,x39=>if x39 < x38 then (if 0≤x39 then (if x39 < (x37.length:Int) then ((dS.f k (wrap64 ((rd x37 x39)*16384)) x6).bind fun pG=>(if x7.length < 17592186044416 then (if x8.length < 17592186044416 then (aG.l1 k x6 (x7 ++ [pG]) (x8 ++ [wrap64 ((wrap64 ((rd x37 x39)*16384)) - (wrap64 (pG*x6)))]) (wrap64 (x9 - pG)) x37 x38 (wrap64 (x39+1))) else (none)) else (none))) else (none)) else (none)) else (aG.l2 k x7 x8 x9)
def aG.l2:Nat→List Int→List Int→Int→Option (List Int × Int)
 | 0,_,_,_=>none
 | k+1,x7,x8,x9=>if x9 > 0 then (aG.l3 k x7 x8 x9 0 (x8.length:Int) 0) else (some (x7,0))
def aG.l3:Nat→List Int→List Int→Int→Int→Int→Int→Option (List Int × Int)
 | 0,_,_,_,_,_,_=>none
 | k+1,x7,x8,x9,x13,x67,x68=>if x68 < x67 then (if 0≤x68 then (if x68 < (x8.length:Int) then (if 0≤x13 then (if x13 < (x8.length:Int) then (if (rd x8 x68) > (rd x8 x13) then (aG.l3 k x7 x8 x9 x68 x67 (wrap64 (x68+1))) else (aG.l3 k x7 x8 x9 x13 x67 (wrap64 (x68+1)))) else (none)) else (none)) else (none)) else (none)) else (if 0≤x13 then (if x13 < (x7.length:Int) then (if x13 < (x8.length:Int) then (aG.l2 k (x7.set (x13:Int).toNat (wrap64 ((rd x7 x13)+1))) (x8.set (x13:Int).toNat (-1)) (wrap64 (x9 - 1))) else (none)) else (none)) else (none))
end
def aG.f (k:Nat) (l0:List Int):Option (List Int × Int):=if (l0.length:Int) < 1 then (aG.j0 k l0 true) else (aG.j0 k l0 (decide ((l0.length:Int) > 1048576)))
set_option maxHeartbeats 8000000 in
set_option maxRecDepth 100000 in
theorem aG.calls (k:Nat) (A0:Option Addr) (c0:Nat) (l0 r1:List Int) (r2:Int) (w:World) (hr0:Kd.C (Kd.int .i64) w A0 l0.length l0) (hc0:l0.length≤c0) (h:aG.f k l0=some (r1,r2)) :
  Calls Tryz.prog 115 #[.slice A0 l0.length c0] w fun e w'=>∃ v0_:Value,e = .returned (.tuple #[v0_,.int .i64 r2])∧Kd.R (Kd.int .i64) 2 w' w.heap.size (fun _=>True) v0_ r1∧Below w.heap.size w w':=by
 have HR0:=aj.mk hr0
 have HC0:=aj.mk hc0
 clear hr0 hc0
 have HB:=aj.mk (Below.refl w.heap.size w)
 have H:=h
 clear h
 unfold aG.f at H
 have HC2:=aj.mk H
 clear H
 go_enter Tryz.func115,Tryz.ntmps115
 go_upto_region 1 with (fail)
 repeat (go_quiet (fail);go_upto_region 1 with (fail))
 go_cut [22] (fun v22 wc=>∃ (kq:Nat) (aiY:Bool),v22 = .bool aiY∧aj (aG.j0 kq l0 aiY=some (r1,r2))∧aj (kq≤k)∧aj (Below w.heap.size w wc))
 case first =>
  have H:=HC2.out
  clear HC2
  by_cases c3:(l0.length:Int) < 1
  ·rw [if_pos c3] at H
   have fO:=decide_eq_true c3
   have wO:decide (l0.length < 1)=true:=decide_eq_true (by omega)
   clear c3
   (first|rw [fO]|(simp only [bZ,dA];rw [fO])|skip)
   have H':=aj.mk H
   clear H
   go_wp2
   repeat (go_quiet (fail);try go_wp2)
   go_meet
   case rel=>exact ⟨_,(true),zT,H',⟨by first|omega|exact Nat.le_refl _⟩,⟨zB⟩⟩
  ·rw [if_neg c3] at H
   have fO:=decide_eq_false c3
   have wO:decide (l0.length < 1)=false:=decide_eq_false (by omega)
   clear c3
   (first|rw [fO]|(simp only [bZ,dA];rw [fO])|skip)
   have H':=aj.mk H
   clear H
   go_wp2
   repeat (go_quiet (fail);try go_wp2)
   go_meet
   case rel=>exact ⟨_,(decide ((l0.length:Int) > 1048576)),zT,H',⟨by first|omega|exact Nat.le_refl _⟩,⟨zB⟩⟩
 case rest =>
  clear HC2
  obtain ⟨kq,aiY,rfl,HA,HJ1,HB⟩:=hcut
  cases kq with
  | zero=>exact absurd HA.out (by simp [aG.j0])
  | succ kj1 =>
   have H:=HA.out
   clear HA
   simp only [aG.j0] at H
   by_cases c4:aiY=true
   ·subst c4
    rw [if_pos rfl] at H;try dsimp only at H
    simp only [Option.some.injEq,Prod.mk.injEq] at H
    obtain ⟨rfl,rfl⟩:=H
    go_wp2
    repeat (go_quiet (fail);try go_wp2)
    go_ret2
    exact ⟨_,zS,by first|exact Kd.jZ _ _ _ _ _|exact Kd.oI _ _ _ _ _|exact Kd.nD _ _ _ _ _|exact Kd.oJ _ _ _ _ _|exact Kd.ou _ _ _ _ _,zB⟩
   ·replace c4:=Bool.eq_false_iff.mpr c4
    subst c4
    rw [if_neg (show ¬ (false=true) by decide)] at H;try dsimp only at H
    have H':=aj.mk H
    clear H
    go_wp2
    repeat (go_quiet (fail);try go_wp2)
    go_loopg [25] kj1 (fun kq v25 w'=>∃ (pV:Int),v25 = .int .i64 pV∧aj (aG.l0 kq l0 l0 (l0.length:Int) pV=some (r1,r2))∧aj (kq≤kj1)∧aj (Below w.heap.size w w'))
    case atStart=>exact ⟨(0),zT,H',⟨Nat.le_refl _⟩,⟨zB⟩⟩
    case round =>
     clear H'
     obtain ⟨pV,rfl,HA,HK2,HB⟩:=hrel
     cases gk with
     | zero=>exact absurd HA.out (by simp [aG.l0])
     | succ k2 =>
      have H:=HA.out
      clear HA
      simp only [aG.l0] at H
      by_cases c5:pV < (l0.length:Int)
      ·rw [if_pos c5] at H
       have iL:=decide_eq_true c5
       clear c5
       by_cases c6:0≤pV
       ·rw [if_pos c6] at H
        have iw:=decide_eq_true c6
        clear c6
        by_cases c7:pV < (l0.length:Int)
        ·rw [if_pos c7] at H
         have jr:=decide_eq_true c7
         clear c7
         replace H:=zO H
         obtain ⟨ac1,A8,H⟩:=H
         try dsimp only at H
         by_cases c9:ac1 > 1099511627776
         ·rw [if_pos c9] at H
          have qJ:=decide_eq_true c9
          clear c9
          simp only [Option.some.injEq,Prod.mk.injEq] at H
          obtain ⟨rfl,rfl⟩:=H
          have afy:0≤(pV:Int):=of_decide_eq_true (by first|(with_reducible assumption)|assumption)
          have afz:pV < (l0.length:Int):=of_decide_eq_true (by first|(with_reducible assumption)|assumption)
          obtain ⟨aup,ao1,zC⟩:=Kd.jD HR0.out pV afy afz
          cases ao1
          replace zC:=(HB.out.cell (World.block_lt_of_cell? w _ zC)).trans zC
          replace afy:=eq_true afy
          replace afz:=eq_true afz
          go_wp2_with (first|(go_at_call 142;(with_reducible refine (iF.calls (rd l0 pV) ac1 _ A8.out).mono ?_);rintro e w' ⟨rfl,⟨nd,rfl⟩⟩;(try exact ⟨rfl,_,zN⟩)))
          repeat (go_quiet (first|(go_at_call 142;(with_reducible refine (iF.calls (rd l0 pV) ac1 _ A8.out).mono ?_);rintro e w' ⟨rfl,⟨nd,rfl⟩⟩;(try exact ⟨rfl,_,zN⟩)));try go_wp2_with (first|(go_at_call 142;(with_reducible refine (iF.calls (rd l0 pV) ac1 _ A8.out).mono ?_);rintro e w' ⟨rfl,⟨nd,rfl⟩⟩;(try exact ⟨rfl,_,zN⟩))))
          go_ret2
          exact ⟨_,zS,by first|exact Kd.jZ _ _ _ _ _|exact Kd.oI _ _ _ _ _|exact Kd.nD _ _ _ _ _|exact Kd.oJ _ _ _ _ _|exact Kd.ou _ _ _ _ _,zB⟩
         ·rw [if_neg c9] at H
          have qJ:=decide_eq_false c9
          clear c9
          have H':=aj.mk H
          clear H
          have afy:0≤(pV:Int):=of_decide_eq_true (by first|(with_reducible assumption)|assumption)
          have afz:pV < (l0.length:Int):=of_decide_eq_true (by first|(with_reducible assumption)|assumption)
          obtain ⟨aup,ao1,zC⟩:=Kd.jD HR0.out pV afy afz
          cases ao1
          replace zC:=(HB.out.cell (World.block_lt_of_cell? w _ zC)).trans zC
          replace afy:=eq_true afy
          replace afz:=eq_true afz
          go_wp2_with (first|(go_at_call 142;(with_reducible refine (iF.calls (rd l0 pV) ac1 _ A8.out).mono ?_);rintro e w' ⟨rfl,⟨nd,rfl⟩⟩;(try exact ⟨rfl,_,zN⟩)))
          repeat (go_quiet (first|(go_at_call 142;(with_reducible refine (iF.calls (rd l0 pV) ac1 _ A8.out).mono ?_);rintro e w' ⟨rfl,⟨nd,rfl⟩⟩;(try exact ⟨rfl,_,zN⟩)));try go_wp2_with (first|(go_at_call 142;(with_reducible refine (iF.calls (rd l0 pV) ac1 _ A8.out).mono ?_);rintro e w' ⟨rfl,⟨nd,rfl⟩⟩;(try exact ⟨rfl,_,zN⟩))))
          go_roundg k2
          case measure=>have:=HJ1.out;have:=HK2.out;omega
          case rel=>exact ⟨(wrap64 (pV+1)),zT,H',⟨by have:=HJ1.out;have:=HK2.out;omega⟩,⟨zB⟩⟩
        ·rw [if_neg c7] at H
         exact absurd H (by simp)
       ·rw [if_neg c6] at H
        exact absurd H (by simp)
      ·rw [if_neg c5] at H
       have iL:=decide_eq_false c5
       clear c5
       replace H:=zO H
       obtain ⟨pU,A10,H⟩:=H
       try dsimp only at H
       by_cases c11:pU < 268435456
       ·rw [if_pos c11] at H
        have iO:=decide_eq_true c11
        clear c11
        simp only [Option.some.injEq,Prod.mk.injEq] at H
        obtain ⟨rfl,rfl⟩:=H
        go_wp2_with (first|(go_at_call 143;(with_reducible refine (eG.calls k2 _ _ l0 pU _ ?iI ?iJ A10.out).mono ?_);(case iI=>repeat (first|exact (Kd.bW HR0.out HB.out)|(with_reducible refine Kd.je ?_ _)|(with_reducible refine Kd.jC ?_ _)|(with_reducible refine Kd.kD ?_)));(case iJ=>exact HC0.out);rintro e w' ⟨rfl,⟨nd,rfl⟩⟩;(try exact ⟨rfl,_,zN⟩)))
        repeat (go_quiet (first|(go_at_call 143;(with_reducible refine (eG.calls k2 _ _ l0 pU _ ?iI ?iJ A10.out).mono ?_);(case iI=>repeat (first|exact (Kd.bW HR0.out HB.out)|(with_reducible refine Kd.je ?_ _)|(with_reducible refine Kd.jC ?_ _)|(with_reducible refine Kd.kD ?_)));(case iJ=>exact HC0.out);rintro e w' ⟨rfl,⟨nd,rfl⟩⟩;(try exact ⟨rfl,_,zN⟩)));try go_wp2_with (first|(go_at_call 143;(with_reducible refine (eG.calls k2 _ _ l0 pU _ ?iI ?iJ A10.out).mono ?_);(case iI=>repeat (first|exact (Kd.bW HR0.out HB.out)|(with_reducible refine Kd.je ?_ _)|(with_reducible refine Kd.jC ?_ _)|(with_reducible refine Kd.kD ?_)));(case iJ=>exact HC0.out);rintro e w' ⟨rfl,⟨nd,rfl⟩⟩;(try exact ⟨rfl,_,zN⟩))))
        go_ret2
        exact ⟨_,zS,by first|exact Kd.jZ _ _ _ _ _|exact Kd.oI _ _ _ _ _|exact Kd.nD _ _ _ _ _|exact Kd.oJ _ _ _ _ _|exact Kd.ou _ _ _ _ _,zB⟩
       ·rw [if_neg c11] at H
        have iO:=decide_eq_false c11
        clear c11
        have H':=aj.mk H
        clear H
        go_wp2_with (first|(go_at_call 143;(with_reducible refine (eG.calls k2 _ _ l0 pU _ ?iI ?iJ A10.out).mono ?_);(case iI=>repeat (first|exact (Kd.bW HR0.out HB.out)|(with_reducible refine Kd.je ?_ _)|(with_reducible refine Kd.jC ?_ _)|(with_reducible refine Kd.kD ?_)));(case iJ=>exact HC0.out);rintro e w' ⟨rfl,⟨nd,rfl⟩⟩;(try exact ⟨rfl,_,zN⟩)))
        repeat (go_quiet (first|(go_at_call 143;(with_reducible refine (eG.calls k2 _ _ l0 pU _ ?iI ?iJ A10.out).mono ?_);(case iI=>repeat (first|exact (Kd.bW HR0.out HB.out)|(with_reducible refine Kd.je ?_ _)|(with_reducible refine Kd.jC ?_ _)|(with_reducible refine Kd.kD ?_)));(case iJ=>exact HC0.out);rintro e w' ⟨rfl,⟨nd,rfl⟩⟩;(try exact ⟨rfl,_,zN⟩)));try go_wp2_with (first|(go_at_call 143;(with_reducible refine (eG.calls k2 _ _ l0 pU _ ?iI ?iJ A10.out).mono ?_);(case iI=>repeat (first|exact (Kd.bW HR0.out HB.out)|(with_reducible refine Kd.je ?_ _)|(with_reducible refine Kd.jC ?_ _)|(with_reducible refine Kd.kD ?_)));(case iJ=>exact HC0.out);rintro e w' ⟨rfl,⟨nd,rfl⟩⟩;(try exact ⟨rfl,_,zN⟩))))
        try simp only [Act.put,List.setIfInBounds_toArray,List.set_cons_succ,List.set_cons_zero]
        go_loopg [7,8,9,39] k2 (fun kq v7 v8 v9 v39 w'=>∃ (yK:List Int) (abn:List Int) (afA:Int) (nS:Int),v9 = .int .i64 afA∧v39 = .int .i64 nS∧aj (aG.l1 kq pU yK abn afA l0 (l0.length:Int) nS=some (r1,r2))∧aj (kq≤k2)∧aj (Kd.R (Kd.int .i64) 2 w' w.heap.size (fun k_=>some k_≠(v8:Value).ownBlock) v7 yK)∧aj (Kd.R (Kd.int .i64) 2 w' w.heap.size (fun k_=>some k_≠(v7:Value).ownBlock) v8 abn)∧aj (Below w.heap.size w w'))
        case atStart=>exact ⟨(([]:List Int)),(([]:List Int)),(16384),(0),zT,zT,H',⟨Nat.le_refl _⟩,⟨by first|exact Kd.jZ _ _ _ _ _|exact Kd.oI _ _ _ _ _|exact Kd.nD _ _ _ _ _|exact Kd.oJ _ _ _ _ _|exact Kd.ou _ _ _ _ _⟩,⟨by first|exact Kd.jZ _ _ _ _ _|exact Kd.oI _ _ _ _ _|exact Kd.nD _ _ _ _ _|exact Kd.oJ _ _ _ _ _|exact Kd.ou _ _ _ _ _⟩,⟨zB⟩⟩
        case round =>
         clear H'
         try clear hx3
         obtain ⟨yK,abn,afA,nS,rfl,rfl,HA,HK3,jl,dN,HB⟩:=hrel
         cases gk with
         | zero=>exact absurd HA.out (by simp [aG.l1])
         | succ k3 =>
          have H:=HA.out
          clear HA
          simp only [aG.l1] at H
          by_cases c12:nS < (l0.length:Int)
          ·rw [if_pos c12] at H
           have aaY:=decide_eq_true c12
           clear c12
           by_cases c13:0≤nS
           ·rw [if_pos c13] at H
            have abO:=decide_eq_true c13
            clear c13
            by_cases c14:nS < (l0.length:Int)
            ·rw [if_pos c14] at H
             have abP:=decide_eq_true c14
             clear c14
             replace H:=zO H
             obtain ⟨pG,A15,H⟩:=H
             try dsimp only at H
             by_cases c16:yK.length < 17592186044416
             ·rw [if_pos c16] at H
              have amr:=aj.mk c16
              clear c16
              obtain ⟨ao2,agy⟩:∃ y_:List Int,y_=(yK ++ [pG]):=⟨_,rfl⟩
              replace H:(if abn.length < 17592186044416 then (aG.l1 k3 pU ao2 (abn ++ [wrap64 ((wrap64 ((rd l0 nS)*16384)) - (wrap64 (pG*pU)))]) (wrap64 (afA - pG)) l0 (l0.length:Int) (wrap64 (nS+1))) else (none))=some (r1,r2):=by first|(rw [agy];with_reducible exact H)|(have H2_:=(Option.bind_some _ _).symm.trans H;rw [agy];with_reducible exact H2_)|(have H2_:=(Option.bind_some _ _).symm.trans H;with_reducible exact H2_)|with_reducible exact H|(rw [agy];exact H)|exact H
              have ams:=aj.mk agy
              clear agy
              by_cases c17:abn.length < 17592186044416
              ·rw [if_pos c17] at H
               have amu:=aj.mk c17
               clear c17
               obtain ⟨asn,agz⟩:∃ y_:List Int,y_=(abn ++ [wrap64 ((wrap64 ((rd l0 nS)*16384)) - (wrap64 (pG*pU)))]):=⟨_,rfl⟩
               replace H:(aG.l1 k3 pU ao2 asn (wrap64 (afA - pG)) l0 (l0.length:Int) (wrap64 (nS+1)))=some (r1,r2):=by first|(rw [agz];with_reducible exact H)|(have H2_:=(Option.bind_some _ _).symm.trans H;rw [agz];with_reducible exact H2_)|(have H2_:=(Option.bind_some _ _).symm.trans H;with_reducible exact H2_)|with_reducible exact H|(rw [agz];exact H)|exact H
               have amv:=aj.mk agz
               clear agz
               have H':=aj.mk H
               clear H
               have ao3:0≤(nS:Int):=of_decide_eq_true (by first|(with_reducible assumption)|assumption)
               have ao4:nS < (l0.length:Int):=of_decide_eq_true (by first|(with_reducible assumption)|assumption)
               obtain ⟨azR,avv,ahr⟩:=Kd.jD HR0.out nS ao3 ao4
               cases avv
               replace ahr:=(HB.out.cell (World.block_lt_of_cell? w _ ahr)).trans ahr
               replace ao3:=eq_true ao3
               replace ao4:=eq_true ao4
               go_wp2_with (first|(go_at_call 144;(with_reducible refine (dS.calls k3 (wrap64 ((rd l0 nS)*16384)) pU pG _ A15.out).mono ?_);rintro e w18 ⟨rfl,hb⟩;obtain ⟨jl,dN,HB⟩:=zA3 (Kd.jL (by (with_reducible repeat (first|apply Kd.aK|apply Kd.aQ|apply Kd.aW));exact jl.out) hb) (Kd.jL (by (with_reducible repeat (first|apply Kd.aK|apply Kd.aQ|apply Kd.aW));exact dN.out) hb) (ak zB hb);(try clear hb))|((with_reducible refine jE (b := .append) (xs := #[.tmp 47,.tmp 49]) rfl ?_);(try (refine ku (by rfl) ?_;dsimp only));at_builtin;refine Kd.kT (Kd.int .i64) (w0:=w) w.heap.size rfl (.tmp 47) (.tmp 49) 44 2 (.int .i64 0) 8 rfl Tryz.underlying44 vH rfl (by decide) (by omega) u7 yK pG [.int .i64 pG] (fun k_=>some k_≠(u8:Value).ownBlock) (fun _=>False) rfl rfl ?aP (fun _ hk=>hk.elim) ?aF ?aO ?aB ?aS ?aL ?_;(case aP=>exact rfl);(case aB=>exact zB);(case aF=>exact (fun k_ hk=>Kd.fresh' (Kd.kU (by (with_reducible repeat (first|apply Kd.aK|apply Kd.aQ|apply Kd.aW));exact dN.out)) k_ hk));(case aO=>exact (by (with_reducible repeat (first|apply Kd.aK|apply Kd.aQ|apply Kd.aW));exact jl.out));(case aS=>exact (bF zB));(case aL=>have:=amr.out;omega);intro ajU w19 ho hb hg hat;rw [← ams.out] at ho;obtain ⟨dN,HB,xE⟩:=zA3 (Kd.qN (ok:=(fun _=>True)) (by (with_reducible repeat (first|apply Kd.aK|apply Kd.aQ|apply Kd.aW));exact Kd.dX dN.out (fun _ hk=>⟨trivial,hk⟩)) hg hat) hb ho;clear ho hb hg hat)|((with_reducible refine jE (b := .append) (xs := #[.tmp 51,.tmp 58]) rfl ?_);(try (refine ku (by rfl) ?_;dsimp only));at_builtin;refine Kd.kT (Kd.int .i64) (w0:=w) w.heap.size rfl (.tmp 51) (.tmp 58) 44 2 (.int .i64 0) 8 rfl Tryz.underlying44 vH rfl (by decide) (by omega) u8 abn (wrap64 ((wrap64 ((rd l0 nS)*16384)) - (wrap64 (pG*pU)))) [.int .i64 (wrap64 ((wrap64 ((rd l0 nS)*16384)) - (wrap64 (pG*pU))))] (fun k_=>some k_≠(ajU:Value).ownBlock) (fun _=>False) rfl rfl ?aP (fun _ hk=>hk.elim) ?aF ?aO ?aB ?aS ?aL ?_;(case aP=>exact rfl);(case aB=>exact zB);(case aF=>exact (fun k_ hk=>Kd.fresh' (Kd.kU (by (with_reducible repeat (first|apply Kd.aK|apply Kd.aQ|apply Kd.aW));exact xE.out)) k_ hk));(case aO=>exact (by (with_reducible repeat (first|apply Kd.aK|apply Kd.aQ|apply Kd.aW));exact Kd.dX dN.out (fun _ hk=>hk.2)));(case aS=>exact (bF zB));(case aL=>have:=amu.out;omega);intro aso w20 ho hb hg hat;rw [← amv.out] at ho;obtain ⟨xE,HB,amw⟩:=zA3 (Kd.qN (ok:=(fun _=>True)) (by (with_reducible repeat (first|apply Kd.aK|apply Kd.aQ|apply Kd.aW));exact Kd.dX xE.out (fun _ hk=>⟨trivial,hk⟩)) hg hat) hb ho;clear ho hb hg hat))
               repeat (go_quiet (first|(go_at_call 144;(with_reducible refine (dS.calls k3 (wrap64 ((rd l0 nS)*16384)) pU pG _ A15.out).mono ?_);rintro e w18 ⟨rfl,hb⟩;obtain ⟨jl,dN,HB⟩:=zA3 (Kd.jL (by (with_reducible repeat (first|apply Kd.aK|apply Kd.aQ|apply Kd.aW));exact jl.out) hb) (Kd.jL (by (with_reducible repeat (first|apply Kd.aK|apply Kd.aQ|apply Kd.aW));exact dN.out) hb) (ak zB hb);(try clear hb))|((with_reducible refine jE (b := .append) (xs := #[.tmp 47,.tmp 49]) rfl ?_);(try (refine ku (by rfl) ?_;dsimp only));at_builtin;refine Kd.kT (Kd.int .i64) (w0:=w) w.heap.size rfl (.tmp 47) (.tmp 49) 44 2 (.int .i64 0) 8 rfl Tryz.underlying44 vH rfl (by decide) (by omega) u7 yK pG [.int .i64 pG] (fun k_=>some k_≠(u8:Value).ownBlock) (fun _=>False) rfl rfl ?aP (fun _ hk=>hk.elim) ?aF ?aO ?aB ?aS ?aL ?_;(case aP=>exact rfl);(case aB=>exact zB);(case aF=>exact (fun k_ hk=>Kd.fresh' (Kd.kU (by (with_reducible repeat (first|apply Kd.aK|apply Kd.aQ|apply Kd.aW));exact dN.out)) k_ hk));(case aO=>exact (by (with_reducible repeat (first|apply Kd.aK|apply Kd.aQ|apply Kd.aW));exact jl.out));(case aS=>exact (bF zB));(case aL=>have:=amr.out;omega);intro ajU w19 ho hb hg hat;rw [← ams.out] at ho;obtain ⟨dN,HB,xE⟩:=zA3 (Kd.qN (ok:=(fun _=>True)) (by (with_reducible repeat (first|apply Kd.aK|apply Kd.aQ|apply Kd.aW));exact Kd.dX dN.out (fun _ hk=>⟨trivial,hk⟩)) hg hat) hb ho;clear ho hb hg hat)|((with_reducible refine jE (b := .append) (xs := #[.tmp 51,.tmp 58]) rfl ?_);(try (refine ku (by rfl) ?_;dsimp only));at_builtin;refine Kd.kT (Kd.int .i64) (w0:=w) w.heap.size rfl (.tmp 51) (.tmp 58) 44 2 (.int .i64 0) 8 rfl Tryz.underlying44 vH rfl (by decide) (by omega) u8 abn (wrap64 ((wrap64 ((rd l0 nS)*16384)) - (wrap64 (pG*pU)))) [.int .i64 (wrap64 ((wrap64 ((rd l0 nS)*16384)) - (wrap64 (pG*pU))))] (fun k_=>some k_≠(ajU:Value).ownBlock) (fun _=>False) rfl rfl ?aP (fun _ hk=>hk.elim) ?aF ?aO ?aB ?aS ?aL ?_;(case aP=>exact rfl);(case aB=>exact zB);(case aF=>exact (fun k_ hk=>Kd.fresh' (Kd.kU (by (with_reducible repeat (first|apply Kd.aK|apply Kd.aQ|apply Kd.aW));exact xE.out)) k_ hk));(case aO=>exact (by (with_reducible repeat (first|apply Kd.aK|apply Kd.aQ|apply Kd.aW));exact Kd.dX dN.out (fun _ hk=>hk.2)));(case aS=>exact (bF zB));(case aL=>have:=amu.out;omega);intro aso w20 ho hb hg hat;rw [← amv.out] at ho;obtain ⟨xE,HB,amw⟩:=zA3 (Kd.qN (ok:=(fun _=>True)) (by (with_reducible repeat (first|apply Kd.aK|apply Kd.aQ|apply Kd.aW));exact Kd.dX xE.out (fun _ hk=>⟨trivial,hk⟩)) hg hat) hb ho;clear ho hb hg hat));try go_wp2_with (first|(go_at_call 144;(with_reducible refine (dS.calls k3 (wrap64 ((rd l0 nS)*16384)) pU pG _ A15.out).mono ?_);rintro e w18 ⟨rfl,hb⟩;obtain ⟨jl,dN,HB⟩:=zA3 (Kd.jL (by (with_reducible repeat (first|apply Kd.aK|apply Kd.aQ|apply Kd.aW));exact jl.out) hb) (Kd.jL (by (with_reducible repeat (first|apply Kd.aK|apply Kd.aQ|apply Kd.aW));exact dN.out) hb) (ak zB hb);(try clear hb))|((with_reducible refine jE (b := .append) (xs := #[.tmp 47,.tmp 49]) rfl ?_);(try (refine ku (by rfl) ?_;dsimp only));at_builtin;refine Kd.kT (Kd.int .i64) (w0:=w) w.heap.size rfl (.tmp 47) (.tmp 49) 44 2 (.int .i64 0) 8 rfl Tryz.underlying44 vH rfl (by decide) (by omega) u7 yK pG [.int .i64 pG] (fun k_=>some k_≠(u8:Value).ownBlock) (fun _=>False) rfl rfl ?aP (fun _ hk=>hk.elim) ?aF ?aO ?aB ?aS ?aL ?_;(case aP=>exact rfl);(case aB=>exact zB);(case aF=>exact (fun k_ hk=>Kd.fresh' (Kd.kU (by (with_reducible repeat (first|apply Kd.aK|apply Kd.aQ|apply Kd.aW));exact dN.out)) k_ hk));(case aO=>exact (by (with_reducible repeat (first|apply Kd.aK|apply Kd.aQ|apply Kd.aW));exact jl.out));(case aS=>exact (bF zB));(case aL=>have:=amr.out;omega);intro ajU w19 ho hb hg hat;rw [← ams.out] at ho;obtain ⟨dN,HB,xE⟩:=zA3 (Kd.qN (ok:=(fun _=>True)) (by (with_reducible repeat (first|apply Kd.aK|apply Kd.aQ|apply Kd.aW));exact Kd.dX dN.out (fun _ hk=>⟨trivial,hk⟩)) hg hat) hb ho;clear ho hb hg hat)|((with_reducible refine jE (b := .append) (xs := #[.tmp 51,.tmp 58]) rfl ?_);(try (refine ku (by rfl) ?_;dsimp only));at_builtin;refine Kd.kT (Kd.int .i64) (w0:=w) w.heap.size rfl (.tmp 51) (.tmp 58) 44 2 (.int .i64 0) 8 rfl Tryz.underlying44 vH rfl (by decide) (by omega) u8 abn (wrap64 ((wrap64 ((rd l0 nS)*16384)) - (wrap64 (pG*pU)))) [.int .i64 (wrap64 ((wrap64 ((rd l0 nS)*16384)) - (wrap64 (pG*pU))))] (fun k_=>some k_≠(ajU:Value).ownBlock) (fun _=>False) rfl rfl ?aP (fun _ hk=>hk.elim) ?aF ?aO ?aB ?aS ?aL ?_;(case aP=>exact rfl);(case aB=>exact zB);(case aF=>exact (fun k_ hk=>Kd.fresh' (Kd.kU (by (with_reducible repeat (first|apply Kd.aK|apply Kd.aQ|apply Kd.aW));exact xE.out)) k_ hk));(case aO=>exact (by (with_reducible repeat (first|apply Kd.aK|apply Kd.aQ|apply Kd.aW));exact Kd.dX dN.out (fun _ hk=>hk.2)));(case aS=>exact (bF zB));(case aL=>have:=amu.out;omega);intro aso w20 ho hb hg hat;rw [← amv.out] at ho;obtain ⟨xE,HB,amw⟩:=zA3 (Kd.qN (ok:=(fun _=>True)) (by (with_reducible repeat (first|apply Kd.aK|apply Kd.aQ|apply Kd.aW));exact Kd.dX xE.out (fun _ hk=>⟨trivial,hk⟩)) hg hat) hb ho;clear ho hb hg hat)))
               go_roundg k3
               case measure=>have:=HJ1.out;have:=HK2.out;have:=HK3.out;omega
               case rel=>exact ⟨(ao2),(asn),(wrap64 (afA - pG)),(wrap64 (nS+1)),zT,zT,H',⟨by have:=HJ1.out;have:=HK2.out;have:=HK3.out;omega⟩,⟨by (with_reducible repeat (first|apply Kd.aK|apply Kd.aQ|apply Kd.aW));exact Kd.dX xE.out (fun _ hk=>hk.2)⟩,⟨by (with_reducible repeat (first|apply Kd.aK|apply Kd.aQ|apply Kd.aW));exact amw.out⟩,⟨zB⟩⟩
              ·rw [if_neg c17] at H
               exact absurd H (by simp)
             ·rw [if_neg c16] at H
              exact absurd H (by simp)
            ·rw [if_neg c14] at H
             exact absurd H (by simp)
           ·rw [if_neg c13] at H
            exact absurd H (by simp)
          ·rw [if_neg c12] at H
           have aaY:=decide_eq_false c12
           clear c12
           have H':=aj.mk H
           clear H
           go_wp2
           repeat (go_quiet (fail);try go_wp2)
           try simp only [Act.put,List.setIfInBounds_toArray,List.set_cons_succ,List.set_cons_zero]
           go_loopg [9] k3 (fun kq v9 w'=>∃ (lg:List Int) (kR:List Int) (aed:Int),v9 = .int .i64 aed∧aj (aG.l2 kq lg kR aed=some (r1,r2))∧aj (kq≤k3)∧aj (Kd.R (Kd.int .i64) 2 w' w.heap.size (fun k_=>some k_≠(u8:Value).ownBlock) u7 lg)∧aj (Kd.R (Kd.int .i64) 2 w' w.heap.size (fun k_=>some k_≠(u7:Value).ownBlock) u8 kR)∧aj (Below w.heap.size w w'))
           case atStart=>exact ⟨(yK),(abn),(afA),zT,H',⟨Nat.le_refl _⟩,⟨by (with_reducible repeat (first|apply Kd.aK|apply Kd.aQ|apply Kd.aW));exact jl.out⟩,⟨by (with_reducible repeat (first|apply Kd.aK|apply Kd.aQ|apply Kd.aW));exact dN.out⟩,⟨zB⟩⟩
           case round =>
            clear H'
            try clear hx3
            obtain ⟨lg,kR,aed,rfl,HA,HK4,jl,dN,HB⟩:=hrel
            cases gk with
            | zero=>exact absurd HA.out (by simp [aG.l2])
            | succ k4 =>
             have H:=HA.out
             clear HA
             simp only [aG.l2] at H
             by_cases c21:aed > 0
             ·rw [if_pos c21] at H
              have ac2:=decide_eq_true c21
              clear c21
              have H':=aj.mk H
              clear H
              obtain ⟨afB,wP,ao5⟩:=Kd.fQ dN.out
              subst ao5
              go_wp2
              repeat (go_quiet (fail);try go_wp2)
              try simp only [Act.put,List.setIfInBounds_toArray,List.set_cons_succ,List.set_cons_zero]
              go_loopg [13,68] k4 (fun kq v13 v68 w'=>∃ (fG:Int) (sD:Int),v13 = .int .i64 fG∧v68 = .int .i64 sD∧aj (aG.l3 kq lg kR aed fG (kR.length:Int) sD=some (r1,r2))∧aj (kq≤k4)∧aj (Kd.R (Kd.int .i64) 2 w' w.heap.size (fun k_=>some k_≠((.slice afB kR.length wP):Value).ownBlock) u7 lg)∧aj (Kd.R (Kd.int .i64) 2 w' w.heap.size (fun k_=>some k_≠(u7:Value).ownBlock) (.slice afB kR.length wP) kR)∧aj (Below w.heap.size w w'))
              case atStart=>exact ⟨(0),(0),zT,zT,H',⟨Nat.le_refl _⟩,⟨by (with_reducible repeat (first|apply Kd.aK|apply Kd.aQ|apply Kd.aW));exact jl.out⟩,⟨by (with_reducible repeat (first|apply Kd.aK|apply Kd.aQ|apply Kd.aW));exact dN.out⟩,⟨zB⟩⟩
              case round =>
               clear H'
               try clear hx3
               obtain ⟨fG,sD,rfl,rfl,HA,HK5,jl,dN,HB⟩:=hrel
               cases gk with
               | zero=>exact absurd HA.out (by simp [aG.l3])
               | succ k5 =>
                have H:=HA.out
                clear HA
                simp only [aG.l3] at H
                by_cases c23:sD < (kR.length:Int)
                ·rw [if_pos c23] at H
                 have amx:=decide_eq_true c23
                 clear c23
                 by_cases c24:0≤sD
                 ·rw [if_pos c24] at H
                  have auq:=decide_eq_true c24
                  clear c24
                  by_cases c25:sD < (kR.length:Int)
                  ·rw [if_pos c25] at H
                   have azS:=decide_eq_true c25
                   clear c25
                   by_cases c26:0≤fG
                   ·rw [if_pos c26] at H
                    have aeQ:=decide_eq_true c26
                    clear c26
                    by_cases c27:fG < (kR.length:Int)
                    ·rw [if_pos c27] at H
                     have azT:=decide_eq_true c27
                     clear c27
                     by_cases c28:(rd kR sD) > (rd kR fG)
                     ·rw [if_pos c28] at H
                      have amy:=decide_eq_true c28
                      clear c28
                      have H':=aj.mk H
                      clear H
                      have afC:0≤(sD:Int):=of_decide_eq_true (by first|(with_reducible assumption)|assumption)
                      have afD:sD < (kR.length:Int):=of_decide_eq_true (by first|(with_reducible assumption)|assumption)
                      obtain ⟨amA,ao6,ark⟩:=Kd.jD (Kd.dK dN.out).2.2 sD afC afD
                      cases ao6
                      replace afC:=eq_true afC
                      replace afD:=eq_true afD
                      have afE:0≤(fG:Int):=of_decide_eq_true (by first|(with_reducible assumption)|assumption)
                      have afF:fG < (kR.length:Int):=of_decide_eq_true (by first|(with_reducible assumption)|assumption)
                      obtain ⟨amB,ao7,arl⟩:=Kd.jD (Kd.dK dN.out).2.2 fG afE afF
                      obtain rfl:amA=amB:=(by injection ao7)
                      replace afE:=eq_true afE
                      replace afF:=eq_true afF
                      go_wp2
                      repeat (go_quiet (fail);try go_wp2)
                      go_roundg k5
                      case measure=>have:=HJ1.out;have:=HK2.out;have:=HK3.out;have:=HK4.out;have:=HK5.out;omega
                      case rel=>exact ⟨(sD),(wrap64 (sD+1)),zT,zT,H',⟨by have:=HJ1.out;have:=HK2.out;have:=HK3.out;have:=HK4.out;have:=HK5.out;omega⟩,⟨by (with_reducible repeat (first|apply Kd.aK|apply Kd.aQ|apply Kd.aW));exact jl.out⟩,⟨by (with_reducible repeat (first|apply Kd.aK|apply Kd.aQ|apply Kd.aW));exact dN.out⟩,⟨zB⟩⟩
                     ·rw [if_neg c28] at H
                      have amy:=decide_eq_false c28
                      clear c28
                      have H':=aj.mk H
                      clear H
                      have afC:0≤(sD:Int):=of_decide_eq_true (by first|(with_reducible assumption)|assumption)
                      have afD:sD < (kR.length:Int):=of_decide_eq_true (by first|(with_reducible assumption)|assumption)
                      obtain ⟨amA,ao6,ark⟩:=Kd.jD (Kd.dK dN.out).2.2 sD afC afD
                      cases ao6
                      replace afC:=eq_true afC
                      replace afD:=eq_true afD
                      have afE:0≤(fG:Int):=of_decide_eq_true (by first|(with_reducible assumption)|assumption)
                      have afF:fG < (kR.length:Int):=of_decide_eq_true (by first|(with_reducible assumption)|assumption)
                      obtain ⟨amB,ao7,arl⟩:=Kd.jD (Kd.dK dN.out).2.2 fG afE afF
                      obtain rfl:amA=amB:=(by injection ao7)
                      replace afE:=eq_true afE
                      replace afF:=eq_true afF
                      go_wp2
                      repeat (go_quiet (fail);try go_wp2)
                      go_roundg k5
                      case measure=>have:=HJ1.out;have:=HK2.out;have:=HK3.out;have:=HK4.out;have:=HK5.out;omega
                      case rel=>exact ⟨(fG),(wrap64 (sD+1)),zT,zT,H',⟨by have:=HJ1.out;have:=HK2.out;have:=HK3.out;have:=HK4.out;have:=HK5.out;omega⟩,⟨by (with_reducible repeat (first|apply Kd.aK|apply Kd.aQ|apply Kd.aW));exact jl.out⟩,⟨by (with_reducible repeat (first|apply Kd.aK|apply Kd.aQ|apply Kd.aW));exact dN.out⟩,⟨zB⟩⟩
                    ·rw [if_neg c27] at H
                     exact absurd H (by simp)
                   ·rw [if_neg c26] at H
                    exact absurd H (by simp)
                  ·rw [if_neg c25] at H
                   exact absurd H (by simp)
                 ·rw [if_neg c24] at H
                  exact absurd H (by simp)
                ·rw [if_neg c23] at H
                 have amx:=decide_eq_false c23
                 clear c23
                 by_cases c29:0≤fG
                 ·rw [if_pos c29] at H
                  have ama:=decide_eq_true c29
                  clear c29
                  by_cases c30:fG < (lg.length:Int)
                  ·rw [if_pos c30] at H
                   have aqB:=decide_eq_true c30
                   clear c30
                   obtain ⟨ahs,agA⟩:∃ y_:List Int,y_=(lg.set (fG:Int).toNat (wrap64 ((rd lg fG)+1))):=⟨_,rfl⟩
                   replace H:(if fG < (kR.length:Int) then (aG.l2 k5 ahs (kR.set (fG:Int).toNat (-1)) (wrap64 (aed - 1))) else (none))=some (r1,r2):=by first|(rw [agA];with_reducible exact H)|(have H2_:=(Option.bind_some _ _).symm.trans H;rw [agA];with_reducible exact H2_)|(have H2_:=(Option.bind_some _ _).symm.trans H;with_reducible exact H2_)|with_reducible exact H|(rw [agA];exact H)|exact H
                   have amC:=aj.mk agA
                   clear agA
                   by_cases c32:fG < (kR.length:Int)
                   ·rw [if_pos c32] at H
                    have azU:=decide_eq_true c32
                    clear c32
                    obtain ⟨ajV,agB⟩:∃ y_:List Int,y_=(kR.set (fG:Int).toNat (-1)):=⟨_,rfl⟩
                    replace H:(aG.l2 k5 ahs ajV (wrap64 (aed - 1)))=some (r1,r2):=by first|(rw [agB];with_reducible exact H)|(have H2_:=(Option.bind_some _ _).symm.trans H;rw [agB];with_reducible exact H2_)|(have H2_:=(Option.bind_some _ _).symm.trans H;with_reducible exact H2_)|with_reducible exact H|(rw [agB];exact H)|exact H
                    have amD:=aj.mk agB
                    clear agB
                    have H':=aj.mk H
                    clear H
                    obtain ⟨avw,uz,ao8⟩:=Kd.fQ jl.out
                    subst ao8
                    have ao9:0≤(fG:Int):=of_decide_eq_true (by first|(with_reducible assumption)|assumption)
                    have apa:fG < (lg.length:Int):=of_decide_eq_true (by first|(with_reducible assumption)|assumption)
                    obtain ⟨azV,avx,arn⟩:=Kd.jD (Kd.dK jl.out).2.2 fG ao9 apa
                    cases avx
                    replace ao9:=eq_true ao9
                    replace apa:=eq_true apa
                    have p31:0≤(fG:Int):=of_decide_eq_true (by first|(with_reducible assumption)|assumption)
                    have q31:(fG:Int) < ((lg.length:Int):Int):=of_decide_eq_true (by first|(with_reducible assumption)|assumption)
                    obtain ⟨pW,aAO,asq,asr,avy,aAP,asu⟩:=Kd.af7 jl.out (by omega)
                    (first|cases asq|(injection asq with ea_ en_ ec_;(first|subst ea_|(injection ea_ with ea_;subst ea_));subst ec_;clear en_))
                    have apb:=aj.mk asr
                    have aAQ:=aj.mk asu
                    clear asr avy asu
                    (first|simp only [add_plain] at arn|skip)
                    obtain ⟨axN,axO⟩:=Kd.uU 0 jl.out (fG:Int) p31 q31
                    replace p31:=eq_true p31
                    replace q31:=eq_true q31
                    have aaQ:=Kd.wY jl.out (fG:Int) (wrap64 ((rd lg fG)+1))
                    go_wp2_with (first|((with_reducible refine wH (t:=2) (p:=87) rfl ?_);(try (rw [nM wr];generalize hq_:World.drewN wr _=wr;obtain ⟨jl,dN,HB⟩:=zA3 (Kd.abo hq_ jl.out) (Kd.abo hq_ dN.out) (abp hq_ HB.out);(try (have aaQ:=Kd.wY jl.out (fG:Int) (wrap64 ((rd lg fG)+1))))));refine uV (t:=2) (p:=87) (v := ?anF) (w1:=(wr.setCell ⟨pW,(fG:Int).toNat,none⟩ (.int .i64 (wrap64 ((rd lg fG)+1))))) ?hg ?ho ?hn ?hr ?_;(case ho=>rfl);(case hg=>rfl);(case hn=>rfl);(case hr=>first|(go_simp;done)|(go_simp;rfl));intro w36 hw;have hg:wr.grownBy w36 (some pW):=(by rw [hw];exact aaQ.2);have hp_:Kd.R (Kd.int .i64) 2 w36 w.heap.size (fun k_=>some k_≠(.slice afB kR.length wP:Value).ownBlock) (.slice (some ⟨pW,0,none⟩) lg.length uz) ahs:=(by rw [hw,amC.out];exact aaQ.1);clear aaQ;obtain ⟨jl,dN,HB⟩:=zA3 hp_ (Kd.qN (v:=(.slice (some ⟨pW,0,none⟩) lg.length uz)) (v1:=(.slice (some ⟨pW,0,none⟩) lg.length uz)) (ok:=(fun _=>True)) (by (with_reducible repeat (first|apply Kd.aK|apply Kd.aQ|apply Kd.aW));exact Kd.dX dN.out (fun _ hk=>⟨trivial,hk⟩)) hg (.inl rfl)) ((by rw [hw];exact qQ (HB.out) apb.out:Below w.heap.size w w36));clear hg hw hp_;have p33:0≤(fG:Int):=of_decide_eq_true (by first|(with_reducible assumption)|assumption);have q33:(fG:Int) < ((kR.length:Int):Int):=of_decide_eq_true (by first|(with_reducible assumption)|assumption);obtain ⟨wE,apc,ab9,aee,ajW,asv,aef⟩:=Kd.af7 dN.out (by omega);(first|cases ab9|(injection ab9 with ea_ en_ ec_;(first|subst ea_|(injection ea_ with ea_;subst ea_));subst ec_;clear en_));have ajX:=aj.mk aee;have asw:=aj.mk aef;clear aee ajW aef;obtain ⟨anG,anH⟩:=Kd.uU 0 dN.out (fG:Int) p33 q33;replace p33:=eq_true p33;replace q33:=eq_true q33;have n_:=aj.mk (Kd.dX (ok':=(fun k_=>some k_≠(.slice (some ⟨pW,0,none⟩) lg.length uz:Value).ownBlock)) dN.out (fun k_ hk=>hk.2));clear dN;have dN:=n_;clear n_;obtain ⟨agC,agD⟩:=Kd.uU 0 dN.out (fG:Int) (of_decide_eq_true (by first|(with_reducible assumption)|assumption)) (of_decide_eq_true (by first|(with_reducible assumption)|assumption));have yL:=Kd.wY dN.out (fG:Int) (-1))|((with_reducible refine wH (t:=2) (p:=90) rfl ?_);(try (rw [nM w36];generalize hq_:World.drewN w36 _=w36;obtain ⟨jl,dN,HB⟩:=zA3 (Kd.abo hq_ jl.out) (Kd.abo hq_ dN.out) (abp hq_ HB.out);(try (have n_:=aj.mk (Kd.dX (ok':=(fun k_=>some k_≠(.slice (some ⟨pW,0,none⟩) lg.length uz:Value).ownBlock)) dN.out (fun k_ hk=>hk.2));clear dN;have dN:=n_;clear n_));(try (obtain ⟨agC,agD⟩:=Kd.uU 0 dN.out (fG:Int) (of_decide_eq_true (by first|(with_reducible assumption)|assumption)) (of_decide_eq_true (by first|(with_reducible assumption)|assumption))));(try (have yL:=Kd.wY dN.out (fG:Int) (-1)))));refine uV (t:=2) (p:=90) (v := ?anI) (w1:=(w36.setCell ⟨wE,(fG:Int).toNat,none⟩ (.int .i64 (-1)))) ?hg ?ho ?hn ?hr ?_;(case ho=>rfl);(case hg=>rfl);(case hn=>rfl);(case hr=>first|(go_simp;done)|(go_simp;rfl));intro w38 hw;have hg:w36.grownBy w38 (some wE):=(by rw [hw];exact yL.2);have hp_:Kd.R (Kd.int .i64) 2 w38 w.heap.size (fun k_=>some k_≠(.slice (some ⟨pW,0,none⟩) lg.length uz:Value).ownBlock) (.slice (some ⟨wE,0,none⟩) kR.length wP) ajV:=(by rw [hw,amD.out];exact yL.1);clear yL;obtain ⟨jl,dN,HB⟩:=zA3 (Kd.qN (v:=(.slice (some ⟨wE,0,none⟩) kR.length wP)) (v1:=(.slice (some ⟨wE,0,none⟩) kR.length wP)) (ok:=(fun _=>True)) (by (with_reducible repeat (first|apply Kd.aK|apply Kd.aQ|apply Kd.aW));exact Kd.dX jl.out (fun _ hk=>⟨trivial,hk⟩)) hg (.inl rfl)) hp_ ((by rw [hw];exact qQ (HB.out) ajX.out:Below w.heap.size w w38));clear hg hw hp_))
                    repeat (go_quiet (first|((with_reducible refine wH (t:=2) (p:=87) rfl ?_);(try (rw [nM wr];generalize hq_:World.drewN wr _=wr;obtain ⟨jl,dN,HB⟩:=zA3 (Kd.abo hq_ jl.out) (Kd.abo hq_ dN.out) (abp hq_ HB.out);(try (have aaQ:=Kd.wY jl.out (fG:Int) (wrap64 ((rd lg fG)+1))))));refine uV (t:=2) (p:=87) (v := ?anF) (w1:=(wr.setCell ⟨pW,(fG:Int).toNat,none⟩ (.int .i64 (wrap64 ((rd lg fG)+1))))) ?hg ?ho ?hn ?hr ?_;(case ho=>rfl);(case hg=>rfl);(case hn=>rfl);(case hr=>first|(go_simp;done)|(go_simp;rfl));intro w36 hw;have hg:wr.grownBy w36 (some pW):=(by rw [hw];exact aaQ.2);have hp_:Kd.R (Kd.int .i64) 2 w36 w.heap.size (fun k_=>some k_≠(.slice afB kR.length wP:Value).ownBlock) (.slice (some ⟨pW,0,none⟩) lg.length uz) ahs:=(by rw [hw,amC.out];exact aaQ.1);clear aaQ;obtain ⟨jl,dN,HB⟩:=zA3 hp_ (Kd.qN (v:=(.slice (some ⟨pW,0,none⟩) lg.length uz)) (v1:=(.slice (some ⟨pW,0,none⟩) lg.length uz)) (ok:=(fun _=>True)) (by (with_reducible repeat (first|apply Kd.aK|apply Kd.aQ|apply Kd.aW));exact Kd.dX dN.out (fun _ hk=>⟨trivial,hk⟩)) hg (.inl rfl)) ((by rw [hw];exact qQ (HB.out) apb.out:Below w.heap.size w w36));clear hg hw hp_;have p33:0≤(fG:Int):=of_decide_eq_true (by first|(with_reducible assumption)|assumption);have q33:(fG:Int) < ((kR.length:Int):Int):=of_decide_eq_true (by first|(with_reducible assumption)|assumption);obtain ⟨wE,apc,ab9,aee,ajW,asv,aef⟩:=Kd.af7 dN.out (by omega);(first|cases ab9|(injection ab9 with ea_ en_ ec_;(first|subst ea_|(injection ea_ with ea_;subst ea_));subst ec_;clear en_));have ajX:=aj.mk aee;have asw:=aj.mk aef;clear aee ajW aef;obtain ⟨anG,anH⟩:=Kd.uU 0 dN.out (fG:Int) p33 q33;replace p33:=eq_true p33;replace q33:=eq_true q33;have n_:=aj.mk (Kd.dX (ok':=(fun k_=>some k_≠(.slice (some ⟨pW,0,none⟩) lg.length uz:Value).ownBlock)) dN.out (fun k_ hk=>hk.2));clear dN;have dN:=n_;clear n_;obtain ⟨agC,agD⟩:=Kd.uU 0 dN.out (fG:Int) (of_decide_eq_true (by first|(with_reducible assumption)|assumption)) (of_decide_eq_true (by first|(with_reducible assumption)|assumption));have yL:=Kd.wY dN.out (fG:Int) (-1))|((with_reducible refine wH (t:=2) (p:=90) rfl ?_);(try (rw [nM w36];generalize hq_:World.drewN w36 _=w36;obtain ⟨jl,dN,HB⟩:=zA3 (Kd.abo hq_ jl.out) (Kd.abo hq_ dN.out) (abp hq_ HB.out);(try (have n_:=aj.mk (Kd.dX (ok':=(fun k_=>some k_≠(.slice (some ⟨pW,0,none⟩) lg.length uz:Value).ownBlock)) dN.out (fun k_ hk=>hk.2));clear dN;have dN:=n_;clear n_));(try (obtain ⟨agC,agD⟩:=Kd.uU 0 dN.out (fG:Int) (of_decide_eq_true (by first|(with_reducible assumption)|assumption)) (of_decide_eq_true (by first|(with_reducible assumption)|assumption))));(try (have yL:=Kd.wY dN.out (fG:Int) (-1)))));refine uV (t:=2) (p:=90) (v := ?anI) (w1:=(w36.setCell ⟨wE,(fG:Int).toNat,none⟩ (.int .i64 (-1)))) ?hg ?ho ?hn ?hr ?_;(case ho=>rfl);(case hg=>rfl);(case hn=>rfl);(case hr=>first|(go_simp;done)|(go_simp;rfl));intro w38 hw;have hg:w36.grownBy w38 (some wE):=(by rw [hw];exact yL.2);have hp_:Kd.R (Kd.int .i64) 2 w38 w.heap.size (fun k_=>some k_≠(.slice (some ⟨pW,0,none⟩) lg.length uz:Value).ownBlock) (.slice (some ⟨wE,0,none⟩) kR.length wP) ajV:=(by rw [hw,amD.out];exact yL.1);clear yL;obtain ⟨jl,dN,HB⟩:=zA3 (Kd.qN (v:=(.slice (some ⟨wE,0,none⟩) kR.length wP)) (v1:=(.slice (some ⟨wE,0,none⟩) kR.length wP)) (ok:=(fun _=>True)) (by (with_reducible repeat (first|apply Kd.aK|apply Kd.aQ|apply Kd.aW));exact Kd.dX jl.out (fun _ hk=>⟨trivial,hk⟩)) hg (.inl rfl)) hp_ ((by rw [hw];exact qQ (HB.out) ajX.out:Below w.heap.size w w38));clear hg hw hp_));try go_wp2_with (first|((with_reducible refine wH (t:=2) (p:=87) rfl ?_);(try (rw [nM wr];generalize hq_:World.drewN wr _=wr;obtain ⟨jl,dN,HB⟩:=zA3 (Kd.abo hq_ jl.out) (Kd.abo hq_ dN.out) (abp hq_ HB.out);(try (have aaQ:=Kd.wY jl.out (fG:Int) (wrap64 ((rd lg fG)+1))))));refine uV (t:=2) (p:=87) (v := ?anF) (w1:=(wr.setCell ⟨pW,(fG:Int).toNat,none⟩ (.int .i64 (wrap64 ((rd lg fG)+1))))) ?hg ?ho ?hn ?hr ?_;(case ho=>rfl);(case hg=>rfl);(case hn=>rfl);(case hr=>first|(go_simp;done)|(go_simp;rfl));intro w36 hw;have hg:wr.grownBy w36 (some pW):=(by rw [hw];exact aaQ.2);have hp_:Kd.R (Kd.int .i64) 2 w36 w.heap.size (fun k_=>some k_≠(.slice afB kR.length wP:Value).ownBlock) (.slice (some ⟨pW,0,none⟩) lg.length uz) ahs:=(by rw [hw,amC.out];exact aaQ.1);clear aaQ;obtain ⟨jl,dN,HB⟩:=zA3 hp_ (Kd.qN (v:=(.slice (some ⟨pW,0,none⟩) lg.length uz)) (v1:=(.slice (some ⟨pW,0,none⟩) lg.length uz)) (ok:=(fun _=>True)) (by (with_reducible repeat (first|apply Kd.aK|apply Kd.aQ|apply Kd.aW));exact Kd.dX dN.out (fun _ hk=>⟨trivial,hk⟩)) hg (.inl rfl)) ((by rw [hw];exact qQ (HB.out) apb.out:Below w.heap.size w w36));clear hg hw hp_;have p33:0≤(fG:Int):=of_decide_eq_true (by first|(with_reducible assumption)|assumption);have q33:(fG:Int) < ((kR.length:Int):Int):=of_decide_eq_true (by first|(with_reducible assumption)|assumption);obtain ⟨wE,apc,ab9,aee,ajW,asv,aef⟩:=Kd.af7 dN.out (by omega);(first|cases ab9|(injection ab9 with ea_ en_ ec_;(first|subst ea_|(injection ea_ with ea_;subst ea_));subst ec_;clear en_));have ajX:=aj.mk aee;have asw:=aj.mk aef;clear aee ajW aef;obtain ⟨anG,anH⟩:=Kd.uU 0 dN.out (fG:Int) p33 q33;replace p33:=eq_true p33;replace q33:=eq_true q33;have n_:=aj.mk (Kd.dX (ok':=(fun k_=>some k_≠(.slice (some ⟨pW,0,none⟩) lg.length uz:Value).ownBlock)) dN.out (fun k_ hk=>hk.2));clear dN;have dN:=n_;clear n_;obtain ⟨agC,agD⟩:=Kd.uU 0 dN.out (fG:Int) (of_decide_eq_true (by first|(with_reducible assumption)|assumption)) (of_decide_eq_true (by first|(with_reducible assumption)|assumption));have yL:=Kd.wY dN.out (fG:Int) (-1))|((with_reducible refine wH (t:=2) (p:=90) rfl ?_);(try (rw [nM w36];generalize hq_:World.drewN w36 _=w36;obtain ⟨jl,dN,HB⟩:=zA3 (Kd.abo hq_ jl.out) (Kd.abo hq_ dN.out) (abp hq_ HB.out);(try (have n_:=aj.mk (Kd.dX (ok':=(fun k_=>some k_≠(.slice (some ⟨pW,0,none⟩) lg.length uz:Value).ownBlock)) dN.out (fun k_ hk=>hk.2));clear dN;have dN:=n_;clear n_));(try (obtain ⟨agC,agD⟩:=Kd.uU 0 dN.out (fG:Int) (of_decide_eq_true (by first|(with_reducible assumption)|assumption)) (of_decide_eq_true (by first|(with_reducible assumption)|assumption))));(try (have yL:=Kd.wY dN.out (fG:Int) (-1)))));refine uV (t:=2) (p:=90) (v := ?anI) (w1:=(w36.setCell ⟨wE,(fG:Int).toNat,none⟩ (.int .i64 (-1)))) ?hg ?ho ?hn ?hr ?_;(case ho=>rfl);(case hg=>rfl);(case hn=>rfl);(case hr=>first|(go_simp;done)|(go_simp;rfl));intro w38 hw;have hg:w36.grownBy w38 (some wE):=(by rw [hw];exact yL.2);have hp_:Kd.R (Kd.int .i64) 2 w38 w.heap.size (fun k_=>some k_≠(.slice (some ⟨pW,0,none⟩) lg.length uz:Value).ownBlock) (.slice (some ⟨wE,0,none⟩) kR.length wP) ajV:=(by rw [hw,amD.out];exact yL.1);clear yL;obtain ⟨jl,dN,HB⟩:=zA3 (Kd.qN (v:=(.slice (some ⟨wE,0,none⟩) kR.length wP)) (v1:=(.slice (some ⟨wE,0,none⟩) kR.length wP)) (ok:=(fun _=>True)) (by (with_reducible repeat (first|apply Kd.aK|apply Kd.aQ|apply Kd.aW));exact Kd.dX jl.out (fun _ hk=>⟨trivial,hk⟩)) hg (.inl rfl)) hp_ ((by rw [hw];exact qQ (HB.out) ajX.out:Below w.heap.size w w38));clear hg hw hp_)))
                    go_roundg k5
                    case measure=>have:=HJ1.out;have:=HK2.out;have:=HK3.out;have:=HK4.out;have:=HK5.out;omega
                    case rel=>exact ⟨(ahs),(ajV),(wrap64 (aed - 1)),zT,H',⟨by have:=HJ1.out;have:=HK2.out;have:=HK3.out;have:=HK4.out;have:=HK5.out;omega⟩,⟨by (with_reducible repeat (first|apply Kd.aK|apply Kd.aQ|apply Kd.aW));exact Kd.dX jl.out (fun _ hk=>hk.2)⟩,⟨by (with_reducible repeat (first|apply Kd.aK|apply Kd.aQ|apply Kd.aW));exact dN.out⟩,⟨zB⟩⟩
                   ·rw [if_neg c32] at H
                    exact absurd H (by simp)
                  ·rw [if_neg c30] at H
                   exact absurd H (by simp)
                 ·rw [if_neg c29] at H
                  exact absurd H (by simp)
             ·rw [if_neg c21] at H
              have ac2:=decide_eq_false c21
              clear c21
              simp only [Option.some.injEq,Prod.mk.injEq] at H
              obtain ⟨rfl,rfl⟩:=H
              go_wp2
              repeat (go_quiet (fail);try go_wp2)
              go_ret2
              exact ⟨_,zS,by (with_reducible repeat (first|apply Kd.aK|apply Kd.aQ|apply Kd.aW));exact Kd.dX jl.out (fun _ hk=>trivial),zB⟩
end Go.Proofs.YtpondkggmcmpfaaGreatDoor.QA
namespace Go.Proofs.YtpondkggmcmpfaaGreatDoor.QA
open Go.Proofs.YtpondkggmcmpfaaGreatDoor.T
open Go.RowKit Go.Proofs.YtpondkggmcmpfaaGreatDoorW.PrintWords Go.Proofs.YtpondkggmcmpfaaGreatDoorW.PrintLast Go.Proofs.YtpondkggmcmpfaaGreatDoorW.PrintMore
attribute [local go_sem] dV dQ dR eP eX
set_option linter.unusedVariables false
set_option linter.unusedSimpArgs false
mutual
def bV.j0:Nat→Int→Int→Int→Bool→Option ((List (lZ)) × Int)
 | 0,_,_,_,_=>none
 | k+1,x0,x1,x2,x29=>if x29=true then (some (([]:List (lZ)),6)) else (bV.l0 k x0 x1 x2 ([]:List (lZ)) x2 0)
def bV.l0:Nat→Int→Int→Int→List (lZ)→Int→Int→Option ((List (lZ)) × Int)
 | 0,_,_,_,_,_,_=>none
 | k+1,x0,x1,x2,x8,x30,x31=>if x31 < x30 then ((bT.f k x0 x1 x2 x31).bind fun aqD=>((aG.f k aqD.2).bind fun amE=>(if amE.2=0 then (if x8.length < 4398046511104 then (bV.l0 k x0 x1 x2 (x8 ++ [(⟨aqD.1,amE.1⟩:lZ)]) x30 (wrap64 (x31+1))) else (none)) else (some (([]:List (lZ)),amE.2))))) else (some (x8,0))
end
def bV.f (k:Nat) (a0 a1 a2:Int):Option ((List (lZ)) × Int):=if a0 < 0 then (bV.j0 k a0 a1 a2 true) else (if a0 > 2 then (bV.j0 k a0 a1 a2 true) else ((iG.f a1).bind fun apd=>(if apd=true then ((iG.f a2).bind fun amF=>(bV.j0 k a0 a1 a2 (!amF))) else (bV.j0 k a0 a1 a2 true))))
set_option maxHeartbeats 8000000 in
set_option maxRecDepth 100000 in
theorem bV.calls (k:Nat) (a0 a1 a2:Int) (r1:List (lZ)) (r2:Int) (w:World) (h:bV.f k a0 a1 a2=some (r1,r2)) :
  Calls Tryz.prog 93 #[.int .i64 a0,.int .i64 a1,.int .i64 a2] w fun e w'=>∃ v0_:Value,e = .returned (.tuple #[v0_,.int .i64 r2])∧Kd.S aaJ 138 w' w.heap.size (fun _=>True) v0_ r1∧Below w.heap.size w w':=by
 have azW:=Tryz.underlying138
 have HB:=aj.mk (Below.refl w.heap.size w)
 have H:=h
 clear h
 unfold bV.f at H
 have HC4:=aj.mk H
 clear H
 go_enter Tryz.func93,Tryz.ntmps93
 go_upto_region 1 with (fail)
 go_cut [29] (fun v29 wc=>∃ (kq:Nat) (aiZ:Bool),v29 = .bool aiZ∧aj (bV.j0 kq a0 a1 a2 aiZ=some (r1,r2))∧aj (kq≤k)∧aj (Below w.heap.size w wc))
 case first =>
  have H:=HC4.out
  clear HC4
  by_cases c5:a0 < 0
  ·rw [if_pos c5] at H
   have iL:=decide_eq_true c5
   clear c5
   (first|rw [iL]|(simp only [bZ,dA];rw [iL])|skip)
   have H':=aj.mk H
   clear H
   go_wp2
   go_meet
   case rel=>exact ⟨_,(true),zT,H',⟨by first|omega|exact Nat.le_refl _⟩,⟨zB⟩⟩
  ·rw [if_neg c5] at H
   have iL:=decide_eq_false c5
   clear c5
   (first|rw [iL]|(simp only [bZ,dA];rw [iL])|skip)
   by_cases c6:a0 > 2
   ·rw [if_pos c6] at H
    have iw:=decide_eq_true c6
    clear c6
    have H':=aj.mk H
    clear H
    go_wp2
    go_meet
    case rel=>exact ⟨_,(true),zT,H',⟨by first|omega|exact Nat.le_refl _⟩,⟨zB⟩⟩
   ·rw [if_neg c6] at H
    have iw:=decide_eq_false c6
    clear c6
    replace H:=zO H
    obtain ⟨apd,A7,H⟩:=H
    try dsimp only at H
    by_cases c8:apd=true
    ·subst c8
     rw [if_pos rfl] at H;try dsimp only at H
     replace H:=zO H
     obtain ⟨amF,A9,H⟩:=H
     try dsimp only at H
     have H':=aj.mk H
     clear H
     go_wp2_with (first|(go_at_call 113;(with_reducible refine (iG.calls a1 true _ A7.out).mono ?_);rintro e w' ⟨rfl,⟨nd,rfl⟩⟩)|(go_at_call 113;(with_reducible refine (iG.calls a2 amF _ A9.out).mono ?_);rintro e w' ⟨rfl,⟨nd,rfl⟩⟩))
     go_meet
     case rel=>exact ⟨_,(!amF),zT,H',⟨by first|omega|exact Nat.le_refl _⟩,⟨zB⟩⟩
    ·replace c8:=Bool.eq_false_iff.mpr c8
     subst c8
     rw [if_neg (show ¬ (false=true) by decide)] at H;try dsimp only at H
     have H':=aj.mk H
     clear H
     go_wp2_with (first|(go_at_call 113;(with_reducible refine (iG.calls a1 false _ A7.out).mono ?_);rintro e w' ⟨rfl,⟨nd,rfl⟩⟩))
     go_meet
     case rel=>exact ⟨_,(true),zT,H',⟨by first|omega|exact Nat.le_refl _⟩,⟨zB⟩⟩
 case rest =>
  clear HC4
  obtain ⟨kq,aiZ,rfl,HA,HJ3,HB⟩:=hcut
  cases kq with
  | zero=>exact absurd HA.out (by simp [bV.j0])
  | succ kj3 =>
   have H:=HA.out
   clear HA
   simp only [bV.j0] at H
   by_cases c10:aiZ=true
   ·subst c10
    rw [if_pos rfl] at H;try dsimp only at H
    simp only [Option.some.injEq,Prod.mk.injEq] at H
    obtain ⟨rfl,rfl⟩:=H
    go_wp2
    go_ret2
    exact ⟨_,zS,by first|exact Kd.ou _ _ _ _ _|exact Kd.oI _ _ _ _ _|exact Kd.nD _ _ _ _ _|exact Kd.oJ _ _ _ _ _|exact Kd.jZ _ _ _ _ _,zB⟩
   ·replace c10:=Bool.eq_false_iff.mpr c10
    subst c10
    rw [if_neg (show ¬ (false=true) by decide)] at H;try dsimp only at H
    have H':=aj.mk H
    clear H
    go_wp2
    go_loopg [8,31] kj3 (fun kq v8 v31 w'=>∃ (kQ:List (lZ)) (aae:Int),v31 = .int .i64 aae∧aj (bV.l0 kq a0 a1 a2 kQ a2 aae=some (r1,r2))∧aj (kq≤kj3)∧aj (Kd.S aaJ 138 w' w.heap.size (fun _=>True) v8 kQ)∧aj (Below w.heap.size w w'))
    case atStart=>exact ⟨(([]:List (lZ))),(0),zT,H',⟨Nat.le_refl _⟩,⟨by first|exact Kd.ou _ _ _ _ _|exact Kd.oI _ _ _ _ _|exact Kd.nD _ _ _ _ _|exact Kd.oJ _ _ _ _ _|exact Kd.jZ _ _ _ _ _⟩,⟨zB⟩⟩
    case round =>
     clear H'
     obtain ⟨kQ,aae,rfl,HA,HK2,dN,HB⟩:=hrel
     cases gk with
     | zero=>exact absurd HA.out (by simp [bV.l0])
     | succ k2 =>
      have H:=HA.out
      clear HA
      simp only [bV.l0] at H
      by_cases c11:aae < a2
      ·rw [if_pos c11] at H
       have iO:=decide_eq_true c11
       clear c11
       replace H:=zO H
       obtain ⟨⟨aht,ac3⟩,A12,H⟩:=H
       try dsimp only at H
       replace H:=zO H
       obtain ⟨⟨afG,afH⟩,A13,H⟩:=H
       try dsimp only at H
       by_cases c14:afH=0
       ·rw [if_pos c14] at H
        have abP:(afH == 0)=true:=beq_iff_eq.mpr c14
        have amG:(afH != 0)=false:=bne_eq_false_iff_eq.mpr c14
        clear c14
        by_cases c15:kQ.length < 4398046511104
        ·rw [if_pos c15] at H
         have amm:=aj.mk c15
         clear c15
         obtain ⟨asx,agE⟩:∃ y_:List (lZ),y_=(kQ ++ [(⟨aht,afG⟩:lZ)]):=⟨_,rfl⟩
         replace H:(bV.l0 k2 a0 a1 a2 asx a2 (wrap64 (aae+1)))=some (r1,r2):=by first|(rw [agE];with_reducible exact H)|(have H2_:=(Option.bind_some _ _).symm.trans H;rw [agE];with_reducible exact H2_)|(have H2_:=(Option.bind_some _ _).symm.trans H;with_reducible exact H2_)|with_reducible exact H|(rw [agE];exact H)|exact H
         have aur:=aj.mk agE
         clear agE
         have H':=aj.mk H
         clear H
         go_wp2_with (first|((with_reducible refine aA (f:=114) rfl ?_);refine aH (some 39) rfl rfl Tryz.func114 (by kernel_rfl) rfl #[.int .i64 a0,.int .i64 a1,.int .i64 a2,.int .i64 aae] rfl zL ?_;(with_reducible refine (bT.calls k2 a0 a1 a2 aae aht ac3 _ A12.out).mono ?_);rintro e w16 ⟨avz,rfl,ho0,hb⟩;refine ⟨_,rfl,?_⟩;obtain ⟨dN,sG,HB⟩:=zA3 (Kd.acD (by (with_reducible repeat (first|apply Kd.zF|apply Kd.zH|apply Kd.abq));exact dN.out) (Kd.iZ ho0) hb) (Kd.fV ho0 (bF zB)) (ak zB hb);(try clear hb);(try clear ho0);obtain ⟨amH,amI,avA⟩:=Kd.fQ sG.out;subst avA)|((with_reducible refine aA (f:=115) rfl ?_);refine aH (some 44) rfl rfl Tryz.func115 (by kernel_rfl) rfl #[.slice amH ac3.length amI] rfl zL ?_;(with_reducible refine (aG.calls k2 _ _ ac3 afG afH _ ?iI ?iJ A13.out).mono ?_);(case iI=>repeat (first|exact (Kd.dK sG.out).2.2|(with_reducible refine Kd.je ?_ _)|(with_reducible refine Kd.jC ?_ _)|(with_reducible refine Kd.kD ?_)));(case iJ=>exact (Kd.dK sG.out).2.1);rintro e w18 ⟨avC,rfl,ho0,hb⟩;refine ⟨_,rfl,?_⟩;obtain ⟨dN,sG,ai0,HB⟩:=zA4 (Kd.acD (by (with_reducible repeat (first|apply Kd.zF|apply Kd.zH|apply Kd.abq));exact dN.out) (Kd.iZ ho0) hb) (Kd.iE (by (with_reducible repeat (first|apply Kd.aK|apply Kd.aQ|apply Kd.aW));exact sG.out) (Kd.iZ ho0) hb) (Kd.fV (Kd.jM ho0 (Kd.kU (by (with_reducible repeat (first|apply Kd.aK|apply Kd.aQ|apply Kd.aW));exact sG.out))) (bF zB)) (ak zB hb);(try clear hb);(try clear ho0);obtain ⟨ajY,ajZ,aj0⟩:=Kd.fQ ai0.out;subst aj0)|((with_reducible refine jE (b := .append) (xs := #[.tmp 50,.tmp 54]) rfl ?_);at_builtin;refine Kd.an2 aaJ (w0:=w) w.heap.size rfl (.tmp 50) (.tmp 54) 39 138 (.agg #[(.int .i64 0),(.slice none 0 0)]) 32 rfl Tryz.underlying39 aq1 rfl (by decide) (by omega) u8 kQ (⟨aht,afG⟩:lZ) [.int .i64 aht,.slice ajY afG.length ajZ] (fun k_=>some k_≠(.slice amH ac3.length amI:Value).ownBlock) (fun k_=>some k_=(.slice ajY afG.length ajZ:Value).ownBlock) rfl rfl ?aP (fun k_ hk_=>((Kd.dX (ok':=fun k_=>((fun k_=>some k_≠(.slice amH ac3.length amI:Value).ownBlock)) k_∧some k_≠(u8:Value).ownBlock) (Kd.ajd (ai0.out) (Kd.ahd dN.out) (by decide)) (fun k_ hk=>⟨hk.1.2,hk.2⟩))).1 k_ hk_.symm) ?aF ?aO ?aB ?aS ?aL ?_;(case aP=>exact ajk _ _ _ (⟨aht,afG⟩:lZ) (Kd.dX (Kd.aqX rfl (Kd.dX (ok':=fun k_=>((fun k_=>some k_≠(.slice amH ac3.length amI:Value).ownBlock)) k_∧some k_≠(u8:Value).ownBlock) (Kd.ajd (ai0.out) (Kd.ahd dN.out) (by decide)) (fun k_ hk=>⟨hk.1.2,hk.2⟩))) (fun _ h_=>h_)));(case aB=>exact zB);(case aF=>exact (fun k_ hk=>Kd.fresh' (Kd.kU (by (with_reducible repeat (first|apply Kd.aK|apply Kd.aQ|apply Kd.aW));exact sG.out)) k_ hk));(case aO=>exact (by (with_reducible repeat (first|apply Kd.zF|apply Kd.zH|apply Kd.abq));exact Kd.anl dN.out (fun k_ hk=>⟨hk.1.2,fun e_=>hk.2 e_⟩)));(case aS=>exact (bF zB));(case aL=>have:=amm.out;omega);intro aAR w20 ho hb hg hat;rw [← aur.out] at ho;obtain ⟨sG,HB,aus⟩:=zA3 (Kd.aqW (by (with_reducible repeat (first|apply Kd.aK|apply Kd.aQ|apply Kd.aW));exact sG.out) (Kd.ahd (by (with_reducible repeat (first|apply Kd.zF|apply Kd.zH|apply Kd.abq));exact dN.out)) (by decide) hg) hb ho;clear ho hb hg hat))
         go_roundg k2
         case measure=>have:=HJ3.out;have:=HK2.out;omega
         case rel=>exact ⟨(asx),(wrap64 (aae+1)),zT,H',⟨by have:=HJ3.out;have:=HK2.out;omega⟩,⟨by (with_reducible repeat (first|apply Kd.zF|apply Kd.zH|apply Kd.abq));exact Kd.anl aus.out (fun _ hk=>trivial)⟩,⟨zB⟩⟩
        ·rw [if_neg c15] at H
         exact absurd H (by simp)
       ·rw [if_neg c14] at H
        have abP:(afH == 0)=false:=beq_eq_false_iff_ne.mpr c14
        have amG:(afH != 0)=true:=bne_iff_ne.mpr c14
        simp only [Option.some.injEq,Prod.mk.injEq] at H
        obtain ⟨rfl,rfl⟩:=H
        go_wp2_with (first|((with_reducible refine aA (f:=114) rfl ?_);refine aH (some 39) rfl rfl Tryz.func114 (by kernel_rfl) rfl #[.int .i64 a0,.int .i64 a1,.int .i64 a2,.int .i64 aae] rfl zL ?_;(with_reducible refine (bT.calls k2 a0 a1 a2 aae aht ac3 _ A12.out).mono ?_);rintro e w21 ⟨avz,rfl,ho0,hb⟩;refine ⟨_,rfl,?_⟩;obtain ⟨dN,sG,HB⟩:=zA3 (Kd.acD (by (with_reducible repeat (first|apply Kd.zF|apply Kd.zH|apply Kd.abq));exact dN.out) (Kd.iZ ho0) hb) (Kd.fV ho0 (bF zB)) (ak zB hb);(try clear hb);(try clear ho0);obtain ⟨afB,wP,ao5⟩:=Kd.fQ sG.out;subst ao5)|((with_reducible refine aA (f:=115) rfl ?_);refine aH (some 44) rfl rfl Tryz.func115 (by kernel_rfl) rfl #[.slice afB ac3.length wP] rfl zL ?_;(with_reducible refine (aG.calls k2 _ _ ac3 afG afH _ ?iI ?iJ A13.out).mono ?_);(case iI=>repeat (first|exact (Kd.dK sG.out).2.2|(with_reducible refine Kd.je ?_ _)|(with_reducible refine Kd.jC ?_ _)|(with_reducible refine Kd.kD ?_)));(case iJ=>exact (Kd.dK sG.out).2.1);rintro e w23 ⟨avC,rfl,ho0,hb⟩;refine ⟨_,rfl,?_⟩;obtain ⟨dN,sG,ai0,HB⟩:=zA4 (Kd.acD (by (with_reducible repeat (first|apply Kd.zF|apply Kd.zH|apply Kd.abq));exact dN.out) (Kd.iZ ho0) hb) (Kd.iE (by (with_reducible repeat (first|apply Kd.aK|apply Kd.aQ|apply Kd.aW));exact sG.out) (Kd.iZ ho0) hb) (Kd.fV (Kd.jM ho0 (Kd.kU (by (with_reducible repeat (first|apply Kd.aK|apply Kd.aQ|apply Kd.aW));exact sG.out))) (bF zB)) (ak zB hb);(try clear hb);(try clear ho0)))
        go_ret2
        exact ⟨_,zS,by first|exact Kd.ou _ _ _ _ _|exact Kd.oI _ _ _ _ _|exact Kd.nD _ _ _ _ _|exact Kd.oJ _ _ _ _ _|exact Kd.jZ _ _ _ _ _,zB⟩
      ·rw [if_neg c11] at H
       have iO:=decide_eq_false c11
       clear c11
       simp only [Option.some.injEq,Prod.mk.injEq] at H
       obtain ⟨rfl,rfl⟩:=H
       go_wp2
       go_ret2
       exact ⟨_,zS,by (with_reducible repeat (first|apply Kd.zF|apply Kd.zH|apply Kd.abq));exact dN.out,zB⟩
end Go.Proofs.YtpondkggmcmpfaaGreatDoor.QA
namespace Go.Proofs.YtpondkggmcmpfaaGreatDoor.QA
open Go.Proofs.YtpondkggmcmpfaaGreatDoor.T
open Go.RowKit Go.Proofs.YtpondkggmcmpfaaGreatDoorW.PrintWords Go.Proofs.YtpondkggmcmpfaaGreatDoorW.PrintLast Go.Proofs.YtpondkggmcmpfaaGreatDoorW.PrintMore
attribute [local go_sem] dV dQ dR eP eX
set_option linter.unusedVariables false
set_option linter.unusedSimpArgs false
mutual
def dP.j0:Nat→Int→Option (Int)
 | 0,_=>none
 | k+1,x0=>(dS.f k x0 762123384786).bind fun aaR=>(dP.l0 k aaR (wrap64 (x0 - (wrap64 (aaR*762123384786)))) 1099511627776 0 1099511627776 1)
def dP.l0:Nat→Int→Int→Int→Int→Int→Int→Option (Int)
 | 0,_,_,_,_,_,_=>none
 | k+1,x3,x4,x5,x6,x7,x8=>if x8≤16 then ((aX.f k x7 x4 (wrap64 (x8*1099511627776))).bind fun abr=>(if (Int.tmod x8 2)=1 then (dP.l0 k x3 x4 x5 (wrap64 (x6+abr)) abr (wrap64 (x8+1))) else (dP.l0 k x3 x4 (wrap64 (x5+abr)) x6 abr (wrap64 (x8+1))))) else ((aJ.f k (wrap64 (x5 - x6)) x3).bind fun ape=>(some ape))
end
def dP.f (k:Nat) (a0:Int):Option (Int):=if a0 < 0 then (dP.j0 k 0) else (dP.j0 k a0)
set_option maxHeartbeats 8000000 in
set_option maxRecDepth 100000 in
theorem dP.calls (k:Nat) (a0 r:Int) (w:World) (h:dP.f k a0=some r) :
  Calls Tryz.prog 145 #[.int .i64 a0] w fun e w'=>e = .returned (.int .i64 r)∧Below w.heap.size w w':=by
 have HB:=aj.mk (Below.refl w.heap.size w)
 have H:=h
 clear h
 unfold dP.f at H
 have HC2:=aj.mk H
 clear H
 go_enter Tryz.func145,Tryz.ntmps145
 go_upto_if 10 with (fail)
 go_cut [0] (fun v0 wc=>∃ (kq:Nat) (acd:Int),v0 = .int .i64 acd∧aj (dP.j0 kq acd=some r)∧aj (kq≤k)∧aj (Below w.heap.size w wc))
 case first =>
  have H:=HC2.out
  clear HC2
  by_cases c3:a0 < 0
  ·rw [if_pos c3] at H
   have fO:=decide_eq_true c3
   clear c3
   (first|rw [fO]|(simp only [bZ,dA];rw [fO])|skip)
   have H':=aj.mk H
   clear H
   go_wp2
   go_meet
   case rel=>exact ⟨_,(0),zT,H',⟨by first|omega|exact Nat.le_refl _⟩,⟨zB⟩⟩
  ·rw [if_neg c3] at H
   have fO:=decide_eq_false c3
   clear c3
   (first|rw [fO]|(simp only [bZ,dA];rw [fO])|skip)
   have H':=aj.mk H
   clear H
   go_wp2
   go_meet
   case rel=>exact ⟨_,(a0),zT,H',⟨by first|omega|exact Nat.le_refl _⟩,⟨zB⟩⟩
 case rest =>
  clear HC2
  obtain ⟨kq,acd,rfl,HA,HJ1,HB⟩:=hcut
  cases kq with
  | zero=>exact absurd HA.out (by simp [dP.j0])
  | succ kj1 =>
   have H:=HA.out
   clear HA
   simp only [dP.j0] at H
   replace H:=zO H
   obtain ⟨aaR,A4,H⟩:=H
   try dsimp only at H
   have H':=aj.mk H
   clear H
   go_wp2_with (first|((with_reducible refine aA (f:=144) rfl ?_);refine aH (some 12) rfl rfl Tryz.func144 (by kernel_rfl) rfl #[.int .i64 acd,.int .i64 762123384786] rfl zL ?_;(with_reducible refine (dS.calls kj1 acd 762123384786 aaR _ A4.out).mono ?_);rintro e w5 ⟨rfl,hb⟩;refine ⟨_,rfl,?_⟩;replace HB:=aj.mk (ak zB hb);(try clear hb)))
   go_loopg [5,6,7,8] kj1 (fun kq v5 v6 v7 v8 w'=>∃ (lS:Int) (wQ:Int) (zA:Int) (kQ:Int),v5 = .int .i64 lS∧v6 = .int .i64 wQ∧v7 = .int .i64 zA∧v8 = .int .i64 kQ∧aj (dP.l0 kq aaR (wrap64 (acd - (wrap64 (aaR*762123384786)))) lS wQ zA kQ=some r)∧aj (kq≤kj1)∧aj (Below w.heap.size w w'))
   case atStart=>exact ⟨(1099511627776),(0),(1099511627776),(1),zT,zT,zT,zT,H',⟨Nat.le_refl _⟩,⟨zB⟩⟩
   case round =>
    clear H'
    obtain ⟨lS,wQ,zA,kQ,rfl,rfl,rfl,rfl,HA,HK2,HB⟩:=hrel
    cases gk with
    | zero=>exact absurd HA.out (by simp [dP.l0])
    | succ k2 =>
     have H:=HA.out
     clear HA
     simp only [dP.l0] at H
     by_cases c6:kQ≤16
     ·rw [if_pos c6] at H
      have iw:=decide_eq_true c6
      clear c6
      replace H:=zO H
      obtain ⟨abr,A7,H⟩:=H
      try dsimp only at H
      by_cases c8:(Int.tmod kQ 2)=1
      ·rw [if_pos c8] at H
       have vT:((Int.tmod kQ 2) == 1)=true:=beq_iff_eq.mpr c8
       have acH:((Int.tmod kQ 2) != 1)=false:=bne_eq_false_iff_eq.mpr c8
       clear c8
       have H':=aj.mk H
       clear H
       go_wp2_with (first|((with_reducible refine aA (f:=118) rfl ?_);refine aH (some 25) rfl rfl Tryz.func118 (by kernel_rfl) rfl #[.int .i64 zA,.int .i64 (wrap64 (acd - (wrap64 (aaR*762123384786)))),.int .i64 (wrap64 (kQ*1099511627776))] rfl zL ?_;(with_reducible refine (aX.calls k2 zA (wrap64 (acd - (wrap64 (aaR*762123384786)))) (wrap64 (kQ*1099511627776)) abr _ A7.out).mono ?_);rintro e w9 ⟨rfl,hb⟩;refine ⟨_,rfl,?_⟩;replace HB:=aj.mk (ak zB hb);(try clear hb)))
       go_roundg k2
       case measure=>have:=HJ1.out;have:=HK2.out;omega
       case rel=>exact ⟨(lS),(wrap64 (wQ+abr)),(abr),(wrap64 (kQ+1)),zT,zT,zT,zT,H',⟨by have:=HJ1.out;have:=HK2.out;omega⟩,⟨zB⟩⟩
      ·rw [if_neg c8] at H
       have vT:((Int.tmod kQ 2) == 1)=false:=beq_eq_false_iff_ne.mpr c8
       have acH:((Int.tmod kQ 2) != 1)=true:=bne_iff_ne.mpr c8
       have H':=aj.mk H
       clear H
       go_wp2_with (first|((with_reducible refine aA (f:=118) rfl ?_);refine aH (some 25) rfl rfl Tryz.func118 (by kernel_rfl) rfl #[.int .i64 zA,.int .i64 (wrap64 (acd - (wrap64 (aaR*762123384786)))),.int .i64 (wrap64 (kQ*1099511627776))] rfl zL ?_;(with_reducible refine (aX.calls k2 zA (wrap64 (acd - (wrap64 (aaR*762123384786)))) (wrap64 (kQ*1099511627776)) abr _ A7.out).mono ?_);rintro e w10 ⟨rfl,hb⟩;refine ⟨_,rfl,?_⟩;replace HB:=aj.mk (ak zB hb);(try clear hb)))
       go_roundg k2
       case measure=>have:=HJ1.out;have:=HK2.out;omega
       case rel=>exact ⟨(wrap64 (lS+abr)),(wQ),(abr),(wrap64 (kQ+1)),zT,zT,zT,zT,H',⟨by have:=HJ1.out;have:=HK2.out;omega⟩,⟨zB⟩⟩
     ·rw [if_neg c6] at H
      have iw:=decide_eq_false c6
      clear c6
      replace H:=zO H
      obtain ⟨ape,A11,H⟩:=H
      try dsimp only at H
      obtain rfl:=Option.some.inj H
      go_wp2_with (first|((with_reducible refine aA (f:=101) rfl ?_);refine aH (some 39) rfl rfl Tryz.func101 (by kernel_rfl) rfl #[.int .i64 (wrap64 (lS - wQ)),.int .i64 aaR] rfl zL ?_;(with_reducible refine (aJ.calls k2 (wrap64 (lS - wQ)) aaR ape _ A11.out).mono ?_);rintro e w12 ⟨rfl,hb⟩;refine ⟨_,rfl,?_⟩;replace HB:=aj.mk (ak zB hb);(try clear hb)))
      go_ret
      exact ⟨zS,zB⟩
def lT.f (k:Nat) (a0 a1:Int):Option (Int):=if a1 < 1 then (some 9223372036854775807) else (if a1 > 4194304 then (some 9223372036854775807) else (if a0 < (-16384) then (some 9223372036854775807) else (if a0 > 16384 then (some 9223372036854775807) else ((aX.f k (wrap64 ((wrap64 (a0*a0))*2147483648)) 1099511627776 (wrap64 (a1*a1))).bind fun apf=>(some apf)))))
set_option maxHeartbeats 8000000 in
set_option maxRecDepth 100000 in
theorem lT.calls (k:Nat) (a0 a1 r:Int) (w:World) (h:lT.f k a0 a1=some r) :
  Calls Tryz.prog 146 #[.int .i64 a0,.int .i64 a1] w fun e w'=>e = .returned (.int .i64 r)∧Below w.heap.size w w':=by
 have HB:=aj.mk (Below.refl w.heap.size w)
 have H:=h
 clear h
 unfold lT.f at H
 by_cases c3:a1 < 1
 ·rw [if_pos c3] at H
  have fO:=decide_eq_true c3
  clear c3
  obtain rfl:=Option.some.inj H
  go_enter Tryz.func146,Tryz.ntmps146
  go_wp2
  go_ret
  exact ⟨zS,zB⟩
 ·rw [if_neg c3] at H
  have fO:=decide_eq_false c3
  clear c3
  by_cases c4:a1 > 4194304
  ·rw [if_pos c4] at H
   have fU:=decide_eq_true c4
   clear c4
   obtain rfl:=Option.some.inj H
   go_enter Tryz.func146,Tryz.ntmps146
   go_wp2
   go_ret
   exact ⟨zS,zB⟩
  ·rw [if_neg c4] at H
   have fU:=decide_eq_false c4
   clear c4
   by_cases c5:a0 < (-16384)
   ·rw [if_pos c5] at H
    have iL:=decide_eq_true c5
    clear c5
    obtain rfl:=Option.some.inj H
    go_enter Tryz.func146,Tryz.ntmps146
    go_wp2
    go_ret
    exact ⟨zS,zB⟩
   ·rw [if_neg c5] at H
    have iL:=decide_eq_false c5
    clear c5
    by_cases c6:a0 > 16384
    ·rw [if_pos c6] at H
     have iw:=decide_eq_true c6
     clear c6
     obtain rfl:=Option.some.inj H
     go_enter Tryz.func146,Tryz.ntmps146
     go_wp2
     go_ret
     exact ⟨zS,zB⟩
    ·rw [if_neg c6] at H
     have iw:=decide_eq_false c6
     clear c6
     replace H:=zO H
     obtain ⟨apf,A7,H⟩:=H
     try dsimp only at H
     obtain rfl:=Option.some.inj H
     go_enter Tryz.func146,Tryz.ntmps146
     go_wp2_with (first|((with_reducible refine aA (f:=118) rfl ?_);refine aH (some 26) rfl rfl Tryz.func118 (by kernel_rfl) rfl #[.int .i64 (wrap64 ((wrap64 (a0*a0))*2147483648)),.int .i64 1099511627776,.int .i64 (wrap64 (a1*a1))] rfl zL ?_;(with_reducible refine (aX.calls k (wrap64 ((wrap64 (a0*a0))*2147483648)) 1099511627776 (wrap64 (a1*a1)) apf _ A7.out).mono ?_);rintro e w8 ⟨rfl,hb⟩;refine ⟨_,rfl,?_⟩;replace HB:=aj.mk (ak zB hb);(try clear hb)))
     go_ret
     exact ⟨zS,zB⟩
def lU.f (k:Nat) (a0 a1:Int):Option (Int):=(lT.f k a0 a1).bind fun aj1=>((dP.f k aj1).bind fun aj2=>((aJ.f k aj2 10).bind fun apg=>(some apg)))
set_option maxHeartbeats 8000000 in
set_option maxRecDepth 100000 in
theorem lU.calls (k:Nat) (a0 a1 r:Int) (w:World) (h:lU.f k a0 a1=some r) :
  Calls Tryz.prog 116 #[.int .i64 a0,.int .i64 a1] w fun e w'=>e = .returned (.int .i64 r)∧Below w.heap.size w w':=by
 have HB:=aj.mk (Below.refl w.heap.size w)
 have H:=h
 clear h
 unfold lU.f at H
 replace H:=zO H
 obtain ⟨aj1,A3,H⟩:=H
 try dsimp only at H
 replace H:=zO H
 obtain ⟨aj2,A4,H⟩:=H
 try dsimp only at H
 replace H:=zO H
 obtain ⟨apg,A5,H⟩:=H
 try dsimp only at H
 obtain rfl:=Option.some.inj H
 go_enter Tryz.func116,Tryz.ntmps116
 go_wp2_with (first|((with_reducible refine aA (f:=146) rfl ?_);refine aH (some 7) rfl rfl Tryz.func146 (by kernel_rfl) rfl #[.int .i64 a0,.int .i64 a1] rfl zL ?_;(with_reducible refine (lT.calls k a0 a1 aj1 _ A3.out).mono ?_);rintro e w6 ⟨rfl,hb⟩;refine ⟨_,rfl,?_⟩;replace HB:=aj.mk (ak zB hb);(try clear hb))|((with_reducible refine aA (f:=145) rfl ?_);refine aH (some 8) rfl rfl Tryz.func145 (by kernel_rfl) rfl #[.int .i64 aj1] rfl zL ?_;(with_reducible refine (dP.calls k aj1 aj2 _ A4.out).mono ?_);rintro e w7 ⟨rfl,hb⟩;refine ⟨_,rfl,?_⟩;replace HB:=aj.mk (ak zB hb);(try clear hb))|((with_reducible refine aA (f:=101) rfl ?_);refine aH (some 9) rfl rfl Tryz.func101 (by kernel_rfl) rfl #[.int .i64 aj2,.int .i64 10] rfl zL ?_;(with_reducible refine (aJ.calls k aj2 10 apg _ A5.out).mono ?_);rintro e w8 ⟨rfl,hb⟩;refine ⟨_,rfl,?_⟩;replace HB:=aj.mk (ak zB hb);(try clear hb)))
 go_ret
 exact ⟨zS,zB⟩
end Go.Proofs.YtpondkggmcmpfaaGreatDoor.QA
namespace Go.Proofs.YtpondkggmcmpfaaGreatDoor.QA
open Go.Proofs.YtpondkggmcmpfaaGreatDoor.T
open Go.RowKit Go.Proofs.YtpondkggmcmpfaaGreatDoorW.PrintWords Go.Proofs.YtpondkggmcmpfaaGreatDoorW.PrintLast Go.Proofs.YtpondkggmcmpfaaGreatDoorW.PrintMore
attribute [local go_sem] dV dQ dR eP eX
set_option linter.unusedVariables false
set_option linter.unusedSimpArgs false
mutual
def bf.j0:Nat→Int→Bool→Option (List Int × Int)
 | 0,_,_=>none
 | k+1,x0,x12=>if x12=true then (some (([]:List Int),7)) else (bf.l0 k x0 0)
def bf.l0:Nat→Int→Int→Option (List Int × Int)
 | 0,_,_=>none
 | k+1,x0,x4=>if (wrap64 (x4*65536)) < (wrap64 (3*x0)) then (bf.l0 k x0 (wrap64 (x4+1))) else (bf.l1 k x0 x4 ([]:List Int) (wrap64 (-x4)))
def bf.l1:Nat→Int→Int→List Int→Int→Option (List Int × Int)
 | 0,_,_,_,_=>none
 | k+1,x0,x4,x5,x6=>if x6≤x4 then ((lU.f k x6 x0).bind fun ahu=>(if x5.length < 17592186044416 then (bf.l1 k x0 x4 (x5 ++ [ahu]) (wrap64 (x6+1))) else (none))) else (some (x5,0))
end
def bf.f (k:Nat) (a0:Int):Option (List Int × Int):=if a0 < 1 then (bf.j0 k a0 true) else (bf.j0 k a0 (decide (a0 > 4194304)))
set_option maxHeartbeats 8000000 in
set_option maxRecDepth 100000 in
theorem bf.calls (k:Nat) (a0:Int) (r1:List Int) (r2:Int) (w:World) (h:bf.f k a0=some (r1,r2)) :
  Calls Tryz.prog 94 #[.int .i64 a0] w fun e w'=>∃ v0_:Value,e = .returned (.tuple #[v0_,.int .i64 r2])∧Kd.R (Kd.int .i64) 2 w' w.heap.size (fun _=>True) v0_ r1∧Below w.heap.size w w':=by
 have HB:=aj.mk (Below.refl w.heap.size w)
 have H:=h
 clear h
 unfold bf.f at H
 have HC2:=aj.mk H
 clear H
 go_enter Tryz.func94,Tryz.ntmps94
 go_upto_region 1 with (fail)
 go_cut [12] (fun v12 wc=>∃ (kq:Nat) (aaZ:Bool),v12 = .bool aaZ∧aj (bf.j0 kq a0 aaZ=some (r1,r2))∧aj (kq≤k)∧aj (Below w.heap.size w wc))
 case first =>
  have H:=HC2.out
  clear HC2
  by_cases c3:a0 < 1
  ·rw [if_pos c3] at H
   have fO:=decide_eq_true c3
   clear c3
   (first|rw [fO]|(simp only [bZ,dA];rw [fO])|skip)
   have H':=aj.mk H
   clear H
   go_wp2
   go_meet
   case rel=>exact ⟨_,(true),zT,H',⟨by first|omega|exact Nat.le_refl _⟩,⟨zB⟩⟩
  ·rw [if_neg c3] at H
   have fO:=decide_eq_false c3
   clear c3
   (first|rw [fO]|(simp only [bZ,dA];rw [fO])|skip)
   have H':=aj.mk H
   clear H
   go_wp2
   go_meet
   case rel=>exact ⟨_,(decide (a0 > 4194304)),zT,H',⟨by first|omega|exact Nat.le_refl _⟩,⟨zB⟩⟩
 case rest =>
  clear HC2
  obtain ⟨kq,aaZ,rfl,HA,HJ1,HB⟩:=hcut
  cases kq with
  | zero=>exact absurd HA.out (by simp [bf.j0])
  | succ kj1 =>
   have H:=HA.out
   clear HA
   simp only [bf.j0] at H
   by_cases c4:aaZ=true
   ·subst c4
    rw [if_pos rfl] at H;try dsimp only at H
    simp only [Option.some.injEq,Prod.mk.injEq] at H
    obtain ⟨rfl,rfl⟩:=H
    go_wp2
    go_ret2
    exact ⟨_,zS,by first|exact Kd.jZ _ _ _ _ _|exact Kd.oI _ _ _ _ _|exact Kd.nD _ _ _ _ _|exact Kd.oJ _ _ _ _ _|exact Kd.ou _ _ _ _ _,zB⟩
   ·replace c4:=Bool.eq_false_iff.mpr c4
    subst c4
    rw [if_neg (show ¬ (false=true) by decide)] at H;try dsimp only at H
    have H':=aj.mk H
    clear H
    go_wp2
    go_loopg [4] kj1 (fun kq v4 w'=>∃ (vC:Int),v4 = .int .i64 vC∧aj (bf.l0 kq a0 vC=some (r1,r2))∧aj (kq≤kj1)∧aj (Below w.heap.size w w'))
    case atStart=>exact ⟨(0),zT,H',⟨Nat.le_refl _⟩,⟨zB⟩⟩
    case round =>
     clear H'
     obtain ⟨vC,rfl,HA,HK2,HB⟩:=hrel
     cases gk with
     | zero=>exact absurd HA.out (by simp [bf.l0])
     | succ k2 =>
      have H:=HA.out
      clear HA
      simp only [bf.l0] at H
      by_cases c5:(wrap64 (vC*65536)) < (wrap64 (3*a0))
      ·rw [if_pos c5] at H
       have iL:=decide_eq_true c5
       clear c5
       have H':=aj.mk H
       clear H
       go_wp2
       go_roundg k2
       case measure=>have:=HJ1.out;have:=HK2.out;omega
       case rel=>exact ⟨(wrap64 (vC+1)),zT,H',⟨by have:=HJ1.out;have:=HK2.out;omega⟩,⟨zB⟩⟩
      ·rw [if_neg c5] at H
       have iL:=decide_eq_false c5
       clear c5
       have H':=aj.mk H
       clear H
       go_wp2
       try simp only [Act.put,List.setIfInBounds_toArray,List.set_cons_succ,List.set_cons_zero]
       go_loopg [5,6] k2 (fun kq v5 v6 w'=>∃ (ahv:List Int) (aeg:Int),v6 = .int .i64 aeg∧aj (bf.l1 kq a0 vC ahv aeg=some (r1,r2))∧aj (kq≤k2)∧aj (Kd.R (Kd.int .i64) 2 w' w.heap.size (fun _=>True) v5 ahv)∧aj (Below w.heap.size w w'))
       case atStart=>exact ⟨(([]:List Int)),(wrap64 (-vC)),zT,H',⟨Nat.le_refl _⟩,⟨by first|exact Kd.jZ _ _ _ _ _|exact Kd.oI _ _ _ _ _|exact Kd.nD _ _ _ _ _|exact Kd.oJ _ _ _ _ _|exact Kd.ou _ _ _ _ _⟩,⟨zB⟩⟩
       case round =>
        clear H'
        obtain ⟨ahv,aeg,rfl,HA,HK3,wF,HB⟩:=hrel
        cases gk with
        | zero=>exact absurd HA.out (by simp [bf.l1])
        | succ k3 =>
         have H:=HA.out
         clear HA
         simp only [bf.l1] at H
         by_cases c6:aeg≤vC
         ·rw [if_pos c6] at H
          have iw:=decide_eq_true c6
          clear c6
          replace H:=zO H
          obtain ⟨ahu,A7,H⟩:=H
          try dsimp only at H
          by_cases c8:ahv.length < 17592186044416
          ·rw [if_pos c8] at H
           have avD:=aj.mk c8
           clear c8
           obtain ⟨asy,agF⟩:∃ y_:List Int,y_=(ahv ++ [ahu]):=⟨_,rfl⟩
           replace H:(bf.l1 k3 a0 vC asy (wrap64 (aeg+1)))=some (r1,r2):=by first|(rw [agF];with_reducible exact H)|(have H2_:=(Option.bind_some _ _).symm.trans H;rw [agF];with_reducible exact H2_)|(have H2_:=(Option.bind_some _ _).symm.trans H;with_reducible exact H2_)|with_reducible exact H|(rw [agF];exact H)|exact H
           have aut:=aj.mk agF
           clear agF
           have H':=aj.mk H
           clear H
           go_wp2_with (first|((with_reducible refine aA (f:=116) rfl ?_);refine aH (some 30) rfl rfl Tryz.func116 (by kernel_rfl) rfl #[.int .i64 aeg,.int .i64 a0] rfl zL ?_;(with_reducible refine (lU.calls k3 aeg a0 ahu _ A7.out).mono ?_);rintro e w9 ⟨rfl,hb⟩;refine ⟨_,rfl,?_⟩;obtain ⟨wF,HB⟩:=zA2 (Kd.jL (by (with_reducible repeat (first|apply Kd.aK|apply Kd.aQ|apply Kd.aW));exact wF.out) hb) (ak zB hb);(try clear hb))|((with_reducible refine jE (b := .append) (xs := #[.tmp 27,.tmp 31]) rfl ?_);at_builtin;refine Kd.kT (Kd.int .i64) (w0:=w) w.heap.size rfl (.tmp 27) (.tmp 31) 44 2 (.int .i64 0) 8 rfl Tryz.underlying44 vH rfl (by decide) (by omega) u5 ahv ahu [.int .i64 ahu] (fun _=>True) (fun _=>False) rfl rfl ?aP (fun _ hk=>hk.elim) ?aF ?aO ?aB ?aS ?aL ?_;(case aP=>exact rfl);(case aB=>exact zB);(case aF=>exact (fun _ _=>trivial));(case aO=>exact (by (with_reducible repeat (first|apply Kd.aK|apply Kd.aQ|apply Kd.aW));exact wF.out));(case aS=>exact (bF zB));(case aL=>have:=avD.out;omega);intro aAS w10 ho hb hg hat;rw [← aut.out] at ho;obtain ⟨HB,auu⟩:=zA2 hb ho;clear ho hb hg hat))
           go_roundg k3
           case measure=>have:=HJ1.out;have:=HK2.out;have:=HK3.out;omega
           case rel=>exact ⟨(asy),(wrap64 (aeg+1)),zT,H',⟨by have:=HJ1.out;have:=HK2.out;have:=HK3.out;omega⟩,⟨by (with_reducible repeat (first|apply Kd.aK|apply Kd.aQ|apply Kd.aW));exact auu.out⟩,⟨zB⟩⟩
          ·rw [if_neg c8] at H
           exact absurd H (by simp)
         ·rw [if_neg c6] at H
          have iw:=decide_eq_false c6
          clear c6
          simp only [Option.some.injEq,Prod.mk.injEq] at H
          obtain ⟨rfl,rfl⟩:=H
          go_wp2
          go_ret2
          exact ⟨_,zS,by (with_reducible repeat (first|apply Kd.aK|apply Kd.aQ|apply Kd.aW));exact wF.out,zB⟩
def ig.l0:Nat→Int→List Int→Int→Int→Option (Int)
 | 0,_,_,_,_=>none
 | k+1,x3,x6,x7,x8=>if x8 < x7 then (if 0≤x8 then (if x8 < (x6.length:Int) then ((iF.f (rd x6 x8)).bind fun aj3=>((gJ.f k x3 aj3).bind fun amJ=>(ig.l0 k amJ x6 x7 (wrap64 (x8+1))))) else (none)) else (none)) else (some x3)
def ig.f (k:Nat) (l0:List Int):Option (Int):=ig.l0 k 0 l0 (l0.length:Int) 0
set_option maxHeartbeats 8000000 in
set_option maxRecDepth 100000 in
theorem ig.calls (k:Nat) (A0:Option Addr) (c0:Nat) (l0:List Int) (r:Int) (w:World) (hr0:Kd.C (Kd.int .i64) w A0 l0.length l0) (hc0:l0.length≤c0) (h:ig.f k l0=some r) :
  Calls Tryz.prog 117 #[.slice A0 l0.length c0] w fun e w'=>e = .returned (.int .i64 r)∧dw w w':=by
 have HR0:=aj.mk hr0
 have HC0:=aj.mk hc0
 clear hr0 hc0
 have H:=h
 clear h
 unfold ig.f at H
 have H':=aj.mk H
 clear H
 go_enter Tryz.func117,Tryz.ntmps117
 go_wp2
 go_loopg [3,8] k (fun kq v3 v8 w'=>∃ (qA:Int) (gY:Int),v3 = .int .i64 qA∧v8 = .int .i64 gY∧aj (ig.l0 kq qA l0 (l0.length:Int) gY=some r)∧aj (kq≤k)∧dw w w')
 case atStart=>exact ⟨(0),(0),zT,zT,H',⟨Nat.le_refl _⟩,zW⟩
 case round =>
  clear H'
  obtain ⟨qA,gY,rfl,rfl,HA,HK1,⟨m1,rfl⟩⟩:=hrel
  cases gk with
  | zero=>exact absurd HA.out (by simp [ig.l0])
  | succ k1 =>
   have H:=HA.out
   clear HA
   simp only [ig.l0] at H
   by_cases c2:gY < (l0.length:Int)
   ·rw [if_pos c2] at H
    have lQ:=decide_eq_true c2
    clear c2
    by_cases c3:0≤gY
    ·rw [if_pos c3] at H
     have fO:=decide_eq_true c3
     clear c3
     by_cases c4:gY < (l0.length:Int)
     ·rw [if_pos c4] at H
      have fU:=decide_eq_true c4
      clear c4
      replace H:=zO H
      obtain ⟨aj3,A5,H⟩:=H
      try dsimp only at H
      replace H:=zO H
      obtain ⟨amJ,A6,H⟩:=H
      try dsimp only at H
      have H':=aj.mk H
      clear H
      have aph:0≤(gY:Int):=of_decide_eq_true (by first|(with_reducible assumption)|assumption)
      have apj:gY < (l0.length:Int):=of_decide_eq_true (by first|(with_reducible assumption)|assumption)
      obtain ⟨azX,avE,axB⟩:=Kd.jD HR0.out gY aph apj
      cases avE
      replace aph:=eq_true aph
      replace apj:=eq_true apj
      go_wp2_with (first|((with_reducible refine aA (f:=142) rfl ?_);refine aH (some 14) rfl rfl Tryz.func142 (by kernel_rfl) rfl #[.int .i64 (rd l0 gY)] rfl zL ?_;(with_reducible refine (iF.calls (rd l0 gY) aj3 _ A5.out).mono ?_);rintro e w' ⟨rfl,⟨nd,rfl⟩⟩;refine ⟨_,rfl,?_⟩)|((with_reducible refine aA (f:=147) rfl ?_);refine aH (some 15) rfl rfl Tryz.func147 (by kernel_rfl) rfl #[.int .i64 qA,.int .i64 aj3] rfl zL ?_;(with_reducible refine (gJ.calls k1 qA aj3 amJ _ A6.out).mono ?_);rintro e w' ⟨rfl,⟨nd,rfl⟩⟩;refine ⟨_,rfl,?_⟩))
      go_roundg k1
      case measure=>have:=HK1.out;omega
      case rel=>exact ⟨(amJ),(wrap64 (gY+1)),zT,zT,H',⟨by have:=HK1.out;omega⟩,zW⟩
     ·rw [if_neg c4] at H
      exact absurd H (by simp)
    ·rw [if_neg c3] at H
     exact absurd H (by simp)
   ·rw [if_neg c2] at H
    have lQ:=decide_eq_false c2
    clear c2
    obtain rfl:=Option.some.inj H
    go_wp2
    go_ret
    exact ⟨zT,zW⟩
end Go.Proofs.YtpondkggmcmpfaaGreatDoor.QA
namespace Go.Proofs.YtpondkggmcmpfaaGreatDoor.QA
open Go.Proofs.YtpondkggmcmpfaaGreatDoor.T
open Go.RowKit Go.Proofs.YtpondkggmcmpfaaGreatDoorW.PrintWords Go.Proofs.YtpondkggmcmpfaaGreatDoorW.PrintLast Go.Proofs.YtpondkggmcmpfaaGreatDoorW.PrintMore
attribute [local go_sem] dV dQ dR eP eX
set_option linter.unusedVariables false
set_option linter.unusedSimpArgs false
mutual
def bD.j0:Nat→List Int→Int→Bool→Option (List Int × Int)
 | 0,_,_,_=>none
 | k+1,x0,x4,x26=>if x26=true then (some (([]:List Int),7)) else (bD.l0 k x4 ([]:List Int) x0 (x0.length:Int) 0)
def bD.l0:Nat→Int→List Int→List Int→Int→Int→Option (List Int × Int)
 | 0,_,_,_,_,_=>none
 | k+1,x4,x5,x27,x28,x29=>if x29 < x28 then (if 0≤x29 then (if x29 < (x27.length:Int) then ((aX.f k (rd x27 x29) 1073741824 x4).bind fun ahw=>(if x5.length < 17592186044416 then (bD.l0 k x4 (x5 ++ [ahw]) x27 x28 (wrap64 (x29+1))) else (none))) else (none)) else (none)) else (some (x5,0))
end
def bD.f (k:Nat) (l0:List Int):Option (List Int × Int):=(ig.f k l0).bind fun uD=>(if ((l0.length:Int) % 2)=0 then (bD.j0 k l0 uD true) else (if (l0.length:Int) > 1024 then (bD.j0 k l0 uD true) else (if uD=0 then (bD.j0 k l0 uD true) else (bD.j0 k l0 uD (decide (uD > 1048576))))))
set_option maxHeartbeats 8000000 in
set_option maxRecDepth 100000 in
theorem bD.calls (k:Nat) (A0:Option Addr) (c0:Nat) (l0 r1:List Int) (r2:Int) (w:World) (hr0:Kd.C (Kd.int .i64) w A0 l0.length l0) (hc0:l0.length≤c0) (h:bD.f k l0=some (r1,r2)) :
  Calls Tryz.prog 96 #[.slice A0 l0.length c0] w fun e w'=>∃ v0_:Value,e = .returned (.tuple #[v0_,.int .i64 r2])∧Kd.R (Kd.int .i64) 2 w' w.heap.size (fun _=>True) v0_ r1∧Below w.heap.size w w':=by
 have HR0:=aj.mk hr0
 have HC0:=aj.mk hc0
 clear hr0 hc0
 have HB:=aj.mk (Below.refl w.heap.size w)
 have H:=h
 clear h
 unfold bD.f at H
 replace H:=zO H
 obtain ⟨uD,A2,H⟩:=H
 try dsimp only at H
 have HC3:=aj.mk H
 clear H
 go_enter Tryz.func96,Tryz.ntmps96
 go_upto_region 2 with (first|((with_reducible refine aA (f:=117) rfl ?_);refine aH (some 9) rfl rfl Tryz.func117 (by kernel_rfl) rfl #[.slice A0 l0.length c0] rfl zL ?_;(with_reducible refine (ig.calls k _ _ l0 uD _ ?iI ?iJ A2.out).mono ?_);(case iI=>repeat (first|exact HR0.out|(with_reducible refine Kd.je ?_ _)|(with_reducible refine Kd.jC ?_ _)|(with_reducible refine Kd.kD ?_)));(case iJ=>exact HC0.out);rintro e w' ⟨rfl,⟨nd,rfl⟩⟩;refine ⟨_,rfl,?_⟩))
 (try simp only [Act.put,List.setIfInBounds_toArray,List.set_cons_zero,List.set_cons_succ])
 go_cut [26] (fun v26 wc=>∃ (kq:Nat) (aa0:Bool),v26 = .bool aa0∧aj (bD.j0 kq l0 uD aa0=some (r1,r2))∧aj (kq≤k)∧aj (Below w.heap.size w wc))
 case first =>
  have H:=HC3.out
  clear HC3
  by_cases c4:((l0.length:Int) % 2)=0
  ·rw [if_pos c4] at H
   have fU:(((l0.length:Int) % 2) == 0)=true:=beq_iff_eq.mpr c4
   have acK:(((l0.length:Int) % 2) != 0)=false:=bne_eq_false_iff_eq.mpr c4
   clear c4
   (first|rw [fU]|(simp only [bZ,dA];rw [fU])|skip)
   have H':=aj.mk H
   clear H
   go_wp2
   go_meet
   case rel=>exact ⟨_,(true),zT,H',⟨by first|omega|exact Nat.le_refl _⟩,⟨zB⟩⟩
  ·rw [if_neg c4] at H
   have fU:(((l0.length:Int) % 2) == 0)=false:=beq_eq_false_iff_ne.mpr c4
   have acK:(((l0.length:Int) % 2) != 0)=true:=bne_iff_ne.mpr c4
   (first|rw [fU]|(simp only [bZ,dA];rw [fU])|skip)
   by_cases c5:(l0.length:Int) > 1024
   ·rw [if_pos c5] at H
    have iL:=decide_eq_true c5
    have abt:decide (1024 < l0.length)=true:=decide_eq_true (by omega)
    clear c5
    have H':=aj.mk H
    clear H
    go_wp2
    go_meet
    case rel=>exact ⟨_,(true),zT,H',⟨by first|omega|exact Nat.le_refl _⟩,⟨zB⟩⟩
   ·rw [if_neg c5] at H
    have iL:=decide_eq_false c5
    have abt:decide (1024 < l0.length)=false:=decide_eq_false (by omega)
    clear c5
    by_cases c6:uD=0
    ·rw [if_pos c6] at H
     have iw:(uD == 0)=true:=beq_iff_eq.mpr c6
     have um:(uD != 0)=false:=bne_eq_false_iff_eq.mpr c6
     clear c6
     have H':=aj.mk H
     clear H
     go_wp2
     go_meet
     case rel=>exact ⟨_,(true),zT,H',⟨by first|omega|exact Nat.le_refl _⟩,⟨zB⟩⟩
    ·rw [if_neg c6] at H
     have iw:(uD == 0)=false:=beq_eq_false_iff_ne.mpr c6
     have um:(uD != 0)=true:=bne_iff_ne.mpr c6
     have H':=aj.mk H
     clear H
     go_wp2
     go_meet
     case rel=>exact ⟨_,(decide (uD > 1048576)),zT,H',⟨by first|omega|exact Nat.le_refl _⟩,⟨zB⟩⟩
 case rest =>
  clear HC3
  obtain ⟨kq,aa0,rfl,HA,HJ2,HB⟩:=hcut
  cases kq with
  | zero=>exact absurd HA.out (by simp [bD.j0])
  | succ kj2 =>
   have H:=HA.out
   clear HA
   simp only [bD.j0] at H
   by_cases c7:aa0=true
   ·subst c7
    rw [if_pos rfl] at H;try dsimp only at H
    simp only [Option.some.injEq,Prod.mk.injEq] at H
    obtain ⟨rfl,rfl⟩:=H
    go_wp2
    go_ret2
    exact ⟨_,zS,by first|exact Kd.jZ _ _ _ _ _|exact Kd.oI _ _ _ _ _|exact Kd.nD _ _ _ _ _|exact Kd.oJ _ _ _ _ _|exact Kd.ou _ _ _ _ _,zB⟩
   ·replace c7:=Bool.eq_false_iff.mpr c7
    subst c7
    rw [if_neg (show ¬ (false=true) by decide)] at H;try dsimp only at H
    have H':=aj.mk H
    clear H
    go_wp2
    go_loopg [5,29] kj2 (fun kq v5 v29 w'=>∃ (lS:List Int) (lI:Int),v29 = .int .i64 lI∧aj (bD.l0 kq uD lS l0 (l0.length:Int) lI=some (r1,r2))∧aj (kq≤kj2)∧aj (Kd.R (Kd.int .i64) 2 w' w.heap.size (fun _=>True) v5 lS)∧aj (Below w.heap.size w w'))
    case atStart=>exact ⟨(([]:List Int)),(0),zT,H',⟨Nat.le_refl _⟩,⟨by first|exact Kd.jZ _ _ _ _ _|exact Kd.oI _ _ _ _ _|exact Kd.nD _ _ _ _ _|exact Kd.oJ _ _ _ _ _|exact Kd.ou _ _ _ _ _⟩,⟨zB⟩⟩
    case round =>
     clear H'
     obtain ⟨lS,lI,rfl,HA,HK2,wF,HB⟩:=hrel
     cases gk with
     | zero=>exact absurd HA.out (by simp [bD.l0])
     | succ k2 =>
      have H:=HA.out
      clear HA
      simp only [bD.l0] at H
      by_cases c8:lI < (l0.length:Int)
      ·rw [if_pos c8] at H
       have vT:=decide_eq_true c8
       clear c8
       by_cases c9:0≤lI
       ·rw [if_pos c9] at H
        have qJ:=decide_eq_true c9
        clear c9
        by_cases c10:lI < (l0.length:Int)
        ·rw [if_pos c10] at H
         have pR:=decide_eq_true c10
         clear c10
         replace H:=zO H
         obtain ⟨ahw,A11,H⟩:=H
         try dsimp only at H
         by_cases c12:lS.length < 17592186044416
         ·rw [if_pos c12] at H
          have auv:=aj.mk c12
          clear c12
          obtain ⟨asz,agG⟩:∃ y_:List Int,y_=(lS ++ [ahw]):=⟨_,rfl⟩
          replace H:(bD.l0 k2 uD asz l0 (l0.length:Int) (wrap64 (lI+1)))=some (r1,r2):=by first|(rw [agG];with_reducible exact H)|(have H2_:=(Option.bind_some _ _).symm.trans H;rw [agG];with_reducible exact H2_)|(have H2_:=(Option.bind_some _ _).symm.trans H;with_reducible exact H2_)|with_reducible exact H|(rw [agG];exact H)|exact H
          have auw:=aj.mk agG
          clear agG
          have H':=aj.mk H
          clear H
          have apk:0≤(lI:Int):=of_decide_eq_true (by first|(with_reducible assumption)|assumption)
          have apl:lI < (l0.length:Int):=of_decide_eq_true (by first|(with_reducible assumption)|assumption)
          obtain ⟨azY,avF,ahx⟩:=Kd.jD HR0.out lI apk apl
          cases avF
          replace ahx:=(HB.out.cell (World.block_lt_of_cell? w _ ahx)).trans ahx
          replace apk:=eq_true apk
          replace apl:=eq_true apl
          go_wp2_with (first|((with_reducible refine aA (f:=118) rfl ?_);refine aH (some 36) rfl rfl Tryz.func118 (by kernel_rfl) rfl #[.int .i64 (rd l0 lI),.int .i64 1073741824,.int .i64 uD] rfl zL ?_;(with_reducible refine (aX.calls k2 (rd l0 lI) 1073741824 uD ahw _ A11.out).mono ?_);rintro e w13 ⟨rfl,hb⟩;refine ⟨_,rfl,?_⟩;obtain ⟨wF,HB⟩:=zA2 (Kd.jL (by (with_reducible repeat (first|apply Kd.aK|apply Kd.aQ|apply Kd.aW));exact wF.out) hb) (ak zB hb);(try clear hb))|((with_reducible refine jE (b := .append) (xs := #[.tmp 33,.tmp 37]) rfl ?_);(try (refine ku (by rfl) ?_;dsimp only));at_builtin;refine Kd.kT (Kd.int .i64) (w0:=w) w.heap.size rfl (.tmp 33) (.tmp 37) 44 2 (.int .i64 0) 8 rfl Tryz.underlying44 vH rfl (by decide) (by omega) u5 lS ahw [.int .i64 ahw] (fun _=>True) (fun _=>False) rfl rfl ?aP (fun _ hk=>hk.elim) ?aF ?aO ?aB ?aS ?aL ?_;(case aP=>exact rfl);(case aB=>exact zB);(case aF=>exact (fun _ _=>trivial));(case aO=>exact (by (with_reducible repeat (first|apply Kd.aK|apply Kd.aQ|apply Kd.aW));exact wF.out));(case aS=>exact (bF zB));(case aL=>have:=auv.out;omega);intro aAT w14 ho hb hg hat;rw [← auw.out] at ho;obtain ⟨HB,auy⟩:=zA2 hb ho;clear ho hb hg hat))
          go_roundg k2
          case measure=>have:=HJ2.out;have:=HK2.out;omega
          case rel=>exact ⟨(asz),(wrap64 (lI+1)),zT,H',⟨by have:=HJ2.out;have:=HK2.out;omega⟩,⟨by (with_reducible repeat (first|apply Kd.aK|apply Kd.aQ|apply Kd.aW));exact auy.out⟩,⟨zB⟩⟩
         ·rw [if_neg c12] at H
          exact absurd H (by simp)
        ·rw [if_neg c10] at H
         exact absurd H (by simp)
       ·rw [if_neg c9] at H
        exact absurd H (by simp)
      ·rw [if_neg c8] at H
       have vT:=decide_eq_false c8
       clear c8
       simp only [Option.some.injEq,Prod.mk.injEq] at H
       obtain ⟨rfl,rfl⟩:=H
       go_wp2
       go_ret2
       exact ⟨_,zS,by (with_reducible repeat (first|apply Kd.aK|apply Kd.aQ|apply Kd.aW));exact wF.out,zB⟩
end Go.Proofs.YtpondkggmcmpfaaGreatDoor.QA
namespace Go.Proofs.YtpondkggmcmpfaaGreatDoor.QA
open Go.Proofs.YtpondkggmcmpfaaGreatDoor.T
open Go.RowKit Go.Proofs.YtpondkggmcmpfaaGreatDoorW.PrintWords Go.Proofs.YtpondkggmcmpfaaGreatDoorW.PrintLast Go.Proofs.YtpondkggmcmpfaaGreatDoorW.PrintMore
attribute [local go_sem] dV dQ dR eP eX
set_option linter.unusedVariables false
set_option linter.unusedSimpArgs false
mutual
def dM.j0:Nat→Int→Bool→Option (List Int × Int)
 | 0,_,_=>none
 | k+1,x0,x10=>if x10=true then (some (([]:List Int),7)) else (dM.l0 k ([]:List Int) (wrap64 ((wrap64 (2*x0))+1)) 0)
def dM.l0:Nat→List Int→Int→Int→Option (List Int × Int)
 | 0,_,_,_=>none
 | k+1,x4,x13,x14=>if x14 < x13 then (if x4.length < 17592186044416 then (dM.l0 k (x4 ++ [1]) x13 (wrap64 (x14+1))) else (none)) else ((bD.f k x4).bind fun aqE=>(some (aqE.1,aqE.2)))
end
def dM.f (k:Nat) (a0:Int):Option (List Int × Int):=if a0 < 0 then (dM.j0 k a0 true) else (dM.j0 k a0 (decide (a0 > 511)))
set_option maxHeartbeats 8000000 in
set_option maxRecDepth 100000 in
theorem dM.calls (k:Nat) (a0:Int) (r1:List Int) (r2:Int) (w:World) (h:dM.f k a0=some (r1,r2)) :
  Calls Tryz.prog 95 #[.int .i64 a0] w fun e w'=>∃ v0_:Value,e = .returned (.tuple #[v0_,.int .i64 r2])∧Kd.R (Kd.int .i64) 2 w' w.heap.size (fun _=>True) v0_ r1∧Below w.heap.size w w':=by
 have HB:=aj.mk (Below.refl w.heap.size w)
 have H:=h
 clear h
 unfold dM.f at H
 have HC2:=aj.mk H
 clear H
 go_enter Tryz.func95,Tryz.ntmps95
 go_upto_region 1 with (fail)
 go_cut [10] (fun v10 wc=>∃ (kq:Nat) (vP:Bool),v10 = .bool vP∧aj (dM.j0 kq a0 vP=some (r1,r2))∧aj (kq≤k)∧aj (Below w.heap.size w wc))
 case first =>
  have H:=HC2.out
  clear HC2
  by_cases c3:a0 < 0
  ·rw [if_pos c3] at H
   have fO:=decide_eq_true c3
   clear c3
   (first|rw [fO]|(simp only [bZ,dA];rw [fO])|skip)
   have H':=aj.mk H
   clear H
   go_wp2
   go_meet
   case rel=>exact ⟨_,(true),zT,H',⟨by first|omega|exact Nat.le_refl _⟩,⟨zB⟩⟩
  ·rw [if_neg c3] at H
   have fO:=decide_eq_false c3
   clear c3
   (first|rw [fO]|(simp only [bZ,dA];rw [fO])|skip)
   have H':=aj.mk H
   clear H
   go_wp2
   go_meet
   case rel=>exact ⟨_,(decide (a0 > 511)),zT,H',⟨by first|omega|exact Nat.le_refl _⟩,⟨zB⟩⟩
 case rest =>
  clear HC2
  obtain ⟨kq,vP,rfl,HA,HJ1,HB⟩:=hcut
  cases kq with
  | zero=>exact absurd HA.out (by simp [dM.j0])
  | succ kj1 =>
   have H:=HA.out
   clear HA
   simp only [dM.j0] at H
   by_cases c4:vP=true
   ·subst c4
    rw [if_pos rfl] at H;try dsimp only at H
    simp only [Option.some.injEq,Prod.mk.injEq] at H
    obtain ⟨rfl,rfl⟩:=H
    go_wp2
    go_ret2
    exact ⟨_,zS,by first|exact Kd.jZ _ _ _ _ _|exact Kd.oI _ _ _ _ _|exact Kd.nD _ _ _ _ _|exact Kd.oJ _ _ _ _ _|exact Kd.ou _ _ _ _ _,zB⟩
   ·replace c4:=Bool.eq_false_iff.mpr c4
    subst c4
    rw [if_neg (show ¬ (false=true) by decide)] at H;try dsimp only at H
    have H':=aj.mk H
    clear H
    go_wp2
    go_loopg [4,14] kj1 (fun kq v4 v14 w'=>∃ (vC:List Int) (yH:Int),v14 = .int .i64 yH∧aj (dM.l0 kq vC (wrap64 ((wrap64 (2*a0))+1)) yH=some (r1,r2))∧aj (kq≤kj1)∧aj (Kd.R (Kd.int .i64) 2 w' w.heap.size (fun _=>True) v4 vC)∧aj (Below w.heap.size w w'))
    case atStart=>exact ⟨(([]:List Int)),(0),zT,H',⟨Nat.le_refl _⟩,⟨by first|exact Kd.jZ _ _ _ _ _|exact Kd.oI _ _ _ _ _|exact Kd.nD _ _ _ _ _|exact Kd.oJ _ _ _ _ _|exact Kd.ou _ _ _ _ _⟩,⟨zB⟩⟩
    case round =>
     clear H'
     obtain ⟨vC,yH,rfl,HA,HK2,afI,HB⟩:=hrel
     cases gk with
     | zero=>exact absurd HA.out (by simp [dM.l0])
     | succ k2 =>
      have H:=HA.out
      clear HA
      simp only [dM.l0] at H
      by_cases c5:yH < (wrap64 ((wrap64 (2*a0))+1))
      ·rw [if_pos c5] at H
       have iL:=decide_eq_true c5
       clear c5
       by_cases c6:vC.length < 17592186044416
       ·rw [if_pos c6] at H
        have avG:=aj.mk c6
        clear c6
        obtain ⟨asA,agH⟩:∃ y_:List Int,y_=(vC ++ [1]):=⟨_,rfl⟩
        replace H:(dM.l0 k2 asA (wrap64 ((wrap64 (2*a0))+1)) (wrap64 (yH+1)))=some (r1,r2):=by first|(rw [agH];with_reducible exact H)|(have H2_:=(Option.bind_some _ _).symm.trans H;rw [agH];with_reducible exact H2_)|(have H2_:=(Option.bind_some _ _).symm.trans H;with_reducible exact H2_)|with_reducible exact H|(rw [agH];exact H)|exact H
        have auz:=aj.mk agH
        clear agH
        have H':=aj.mk H
        clear H
        go_wp2_with (first|((with_reducible refine jE (b := .append) (xs := #[.tmp 16,.tmp 17]) rfl ?_);at_builtin;refine Kd.kT (Kd.int .i64) (w0:=w) w.heap.size rfl (.tmp 16) (.tmp 17) 44 2 (.int .i64 0) 8 rfl Tryz.underlying44 vH rfl (by decide) (by omega) u4 vC 1 [.int .i64 1] (fun _=>True) (fun _=>False) rfl rfl ?aP (fun _ hk=>hk.elim) ?aF ?aO ?aB ?aS ?aL ?_;(case aP=>exact rfl);(case aB=>exact zB);(case aF=>exact (fun _ _=>trivial));(case aO=>exact (by (with_reducible repeat (first|apply Kd.aK|apply Kd.aQ|apply Kd.aW));exact afI.out));(case aS=>exact (bF zB));(case aL=>have:=avG.out;omega);intro aAU w7 ho hb hg hat;rw [← auz.out] at ho;obtain ⟨HB,auA⟩:=zA2 hb ho;clear ho hb hg hat))
        go_roundg k2
        case measure=>have:=HJ1.out;have:=HK2.out;omega
        case rel=>exact ⟨(asA),(wrap64 (yH+1)),zT,H',⟨by have:=HJ1.out;have:=HK2.out;omega⟩,⟨by (with_reducible repeat (first|apply Kd.aK|apply Kd.aQ|apply Kd.aW));exact auA.out⟩,⟨zB⟩⟩
       ·rw [if_neg c6] at H
        exact absurd H (by simp)
      ·rw [if_neg c5] at H
       have iL:=decide_eq_false c5
       clear c5
       replace H:=zO H
       obtain ⟨⟨avH,avI⟩,A8,H⟩:=H
       try dsimp only at H
       simp only [Option.some.injEq,Prod.mk.injEq] at H
       obtain ⟨rfl,rfl⟩:=H
       obtain ⟨Ao9,co9,eo9⟩:=Kd.fQ afI.out
       subst eo9
       go_wp2_with (first|((with_reducible refine aA (f:=96) rfl ?_);refine aH (some 21) rfl rfl Tryz.func96 (by kernel_rfl) rfl #[.slice Ao9 vC.length co9] rfl zL ?_;(with_reducible refine (bD.calls k2 _ _ vC avH avI _ ?iI ?iJ A8.out).mono ?_);(case iI=>repeat (first|exact (Kd.dK afI.out).2.2|(with_reducible refine Kd.je ?_ _)|(with_reducible refine Kd.jC ?_ _)|(with_reducible refine Kd.kD ?_)));(case iJ=>exact (Kd.dK afI.out).2.1);rintro e w10 ⟨aAV,rfl,ho0,hb⟩;refine ⟨_,rfl,?_⟩;obtain ⟨afI,auB,HB⟩:=zA3 (Kd.iE (by (with_reducible repeat (first|apply Kd.aK|apply Kd.aQ|apply Kd.aW));exact afI.out) (Kd.iZ ho0) hb) (Kd.fV (Kd.jM ho0 (Kd.kU (by (with_reducible repeat (first|apply Kd.aK|apply Kd.aQ|apply Kd.aW));exact afI.out))) (bF zB)) (ak zB hb);(try clear hb);(try clear ho0)))
       go_ret2
       exact ⟨_,zS,by (with_reducible repeat (first|apply Kd.aK|apply Kd.aQ|apply Kd.aW));exact Kd.dX auB.out (fun _ hk=>trivial),zB⟩
def rJ.f (a0:Int):Option (Bool):=if a0≥1 then (some (decide (a0≤4096))) else (some false)
set_option maxHeartbeats 8000000 in
set_option maxRecDepth 100000 in
theorem rJ.calls (a0:Int) (r:Bool) (w:World) (h:rJ.f a0=some r) :
  Calls Tryz.prog 61 #[.int .i64 a0] w fun e w'=>e = .returned (.bool r)∧dw w w':=by
 have H:=h
 clear h
 unfold rJ.f at H
 by_cases c2:a0≥1
 ·rw [if_pos c2] at H
  have lQ:=decide_eq_true c2
  clear c2
  obtain rfl:=Option.some.inj H
  go_enter Tryz.func61,Tryz.ntmps61
  go_wp2
  go_ret
  exact ⟨zT,zW⟩
 ·rw [if_neg c2] at H
  have lQ:=decide_eq_false c2
  clear c2
  obtain rfl:=Option.some.inj H
  go_enter Tryz.func61,Tryz.ntmps61
  go_wp2
  go_ret
  exact ⟨zT,zW⟩
def uF.f (a0 a1:Int):Option (Int):=if a1=0 then (none) else (some (wrap64 (Int.tdiv (wrap64 ((wrap64 (a0+a1)) - 1)) a1)))
set_option maxHeartbeats 8000000 in
set_option maxRecDepth 100000 in
theorem uF.calls (a0 a1 r:Int) (w:World) (h:uF.f a0 a1=some r) :
  Calls Tryz.prog 65 #[.int .i64 a0,.int .i64 a1] w fun e w'=>e = .returned (.int .i64 r)∧dw w w':=by
 have H:=h
 clear h
 unfold uF.f at H
 by_cases c3:a1=0
 ·rw [if_pos c3] at H
  exact absurd H (by simp)
 ·rw [if_neg c3] at H
  have fO:(a1 == 0)=false:=beq_eq_false_iff_ne.mpr c3
  have wO:(a1 != 0)=true:=bne_iff_ne.mpr c3
  obtain rfl:=Option.some.inj H
  go_enter Tryz.func65,Tryz.ntmps65
  go_wp2
  go_ret
  exact ⟨zT,zW⟩
end Go.Proofs.YtpondkggmcmpfaaGreatDoor.QA
namespace Go.Proofs.YtpondkggmcmpfaaGreatDoor.QA
open Go.Proofs.YtpondkggmcmpfaaGreatDoor.T
open Go.RowKit Go.Proofs.YtpondkggmcmpfaaGreatDoorW.PrintWords Go.Proofs.YtpondkggmcmpfaaGreatDoorW.PrintLast Go.Proofs.YtpondkggmcmpfaaGreatDoorW.PrintMore
attribute [local go_sem] dV dQ dR eP eX
set_option linter.unusedVariables false
set_option linter.unusedSimpArgs false
end Go.Proofs.YtpondkggmcmpfaaGreatDoor.QA
namespace Go.Proofs.YtpondkggmcmpfaaGreatDoor.QA
open Go.Proofs.YtpondkggmcmpfaaGreatDoor.T
open Go.RowKit Go.Proofs.YtpondkggmcmpfaaGreatDoorW.PrintWords Go.Proofs.YtpondkggmcmpfaaGreatDoorW.PrintLast Go.Proofs.YtpondkggmcmpfaaGreatDoorW.PrintMore
attribute [local go_sem] dV dQ dR eP eX
set_option linter.unusedVariables false
set_option linter.unusedSimpArgs false
end Go.Proofs.YtpondkggmcmpfaaGreatDoor.QA
namespace Go.Proofs.YtpondkggmcmpfaaGreatDoor.QA
open Go.Proofs.YtpondkggmcmpfaaGreatDoor.T
open Go.RowKit Go.Proofs.YtpondkggmcmpfaaGreatDoorW.PrintWords Go.Proofs.YtpondkggmcmpfaaGreatDoorW.PrintLast Go.Proofs.YtpondkggmcmpfaaGreatDoorW.PrintMore
attribute [local go_sem] dV dQ dR eP eX
set_option linter.unusedVariables false
set_option linter.unusedSimpArgs false
end Go.Proofs.YtpondkggmcmpfaaGreatDoor.QA
namespace Go.Proofs.YtpondkggmcmpfaaGreatDoor.QA
open Go.Proofs.YtpondkggmcmpfaaGreatDoor.T
open Go.RowKit Go.Proofs.YtpondkggmcmpfaaGreatDoorW.PrintWords Go.Proofs.YtpondkggmcmpfaaGreatDoorW.PrintLast Go.Proofs.YtpondkggmcmpfaaGreatDoorW.PrintMore
attribute [local go_sem] dV dQ dR eP eX
set_option linter.unusedVariables false
set_option linter.unusedSimpArgs false
end Go.Proofs.YtpondkggmcmpfaaGreatDoor.QA
