/- Joined by wip/tools/bundle.py out of: QAx36 QAx37 QAx38 QAx39 QAx40 QAx41. -/
import Derived.Test.YtpondkggmcmpfaaGreatDoorBPlanTiles0
import Derived.Test.YtpondkggmcmpfaaGreatDoorBPlanTiles1
import Derived.Test.YtpondkggmcmpfaaGreatDoorBPlanTiles13
import Derived.Test.YtpondkggmcmpfaaGreatDoorBPlanTiles7
import Derived.Test.YtpondkggmcmpfaaGreatDoorBPlanTiles12
namespace Go.Proofs.YtpondkggmcmpfaaGreatDoor.QA
open Go.Proofs.YtpondkggmcmpfaaGreatDoor.T
open Go.RowKit Go.Proofs.YtpondkggmcmpfaaGreatDoorW.PrintWords Go.Proofs.YtpondkggmcmpfaaGreatDoorW.PrintLast Go.Proofs.YtpondkggmcmpfaaGreatDoorW.PrintMore
attribute [local go_sem] eG dX dY fF fG
set_option linter.unusedVariables false
set_option linter.unusedSimpArgs false
mutual
def aG.j0:Nat→List Int→Bool→Option (List Int × Int)
 | 0,_,_=>none
 | k+1,x0,x22=>if x22=true then (some (([]:List Int),7)) else (aG.l0 k x0 x0 (x0.length:Int) 0)
def aG.l0:Nat→List Int→List Int→Int→Int→Option (List Int × Int)
 | 0,_,_,_,_=>none
 | k+1,x0,x23,x24,x25=>if x25 < x24 then (if 0≤x25 then (if x25 < (x23.length:Int) then ((iU.f (rd x23 x25)).bind fun ad5=>(if ad5 > 1099511627776 then (some (([]:List Int),7)) else (aG.l0 k x0 x23 x24 (wrap64 (x25+1))))) else (none)) else (none)) else ((fC.f k x0).bind fun rC=>(if rC < 268435456 then (some (([]:List Int),8)) else (aG.l1 k rC ([]:List Int) ([]:List Int) 16384 x0 (x0.length:Int) 0)))
def aG.l1:Nat→Int→List Int→List Int→Int→List Int→Int→Int→Option (List Int × Int)
 | 0,_,_,_,_,_,_,_=>none
 | k+1,x6,x7,x8,x9,x37,x38,x39=>if x39 < x38 then (if 0≤x39 then (if x39 < (x37.length:Int) then ((dZ.f k (wrap64 ((rd x37 x39)*16384)) x6).bind fun qQ=>(if x7.length < 17592186044416 then (if x8.length < 17592186044416 then (aG.l1 k x6 (x7 ++ [qQ]) (x8 ++ [wrap64 ((wrap64 ((rd x37 x39)*16384)) - (wrap64 (qQ*x6)))]) (wrap64 (x9 - qQ)) x37 x38 (wrap64 (x39+1))) else (none)) else (none))) else (none)) else (none)) else (aG.l2 k x7 x8 x9)
def aG.l2:Nat→List Int→List Int→Int→Option (List Int × Int)
 | 0,_,_,_=>none
 | k+1,x7,x8,x9=>if x9 > 0 then (aG.l3 k x7 x8 x9 0 (x8.length:Int) 0) else (some (x7,0))
def aG.l3:Nat→List Int→List Int→Int→Int→Int→Int→Option (List Int × Int)
 | 0,_,_,_,_,_,_=>none
 | k+1,x7,x8,x9,x13,x67,x68=>if x68 < x67 then (if 0≤x68 then (if x68 < (x8.length:Int) then (if 0≤x13 then (if x13 < (x8.length:Int) then (if (rd x8 x68) > (rd x8 x13) then (aG.l3 k x7 x8 x9 x68 x67 (wrap64 (x68+1))) else (aG.l3 k x7 x8 x9 x13 x67 (wrap64 (x68+1)))) else (none)) else (none)) else (none)) else (none)) else (if 0≤x13 then (if x13 < (x7.length:Int) then (if x13 < (x8.length:Int) then (aG.l2 k (x7.set (x13:Int).toNat (wrap64 ((rd x7 x13)+1))) (x8.set (x13:Int).toNat (-1)) (wrap64 (x9 - 1))) else (none)) else (none)) else (none))
end
def aG.f (k:Nat) (l0:List Int):Option (List Int × Int):=if (l0.length:Int) < 1 then (aG.j0 k l0 true) else (aG.j0 k l0 (decide ((l0.length:Int) > 1048576)))
set_option maxHeartbeats 8000000 in
set_option maxRecDepth 100000 in
theorem aG.calls (k:Nat) (A0:Option Addr) (c0:Nat) (l0 r1:List Int) (r2:Int) (w:World) (hr0:Kd.C (Kd.int .i64) w A0 l0.length l0) (hc0:l0.length≤c0) (h:aG.f k l0=some (r1,r2)) :
  Calls Tryz.prog 115 #[.slice A0 l0.length c0] w fun e w'=>∃ v0_:Value,e = .returned (.tuple #[v0_,.int .i64 r2])∧Kd.R (Kd.int .i64) 2 w' w.heap.size (fun _=>True) v0_ r1∧Below w.heap.size w w':=by
 have HR0:=aj.mk hr0
 have HC0:=aj.mk hc0
 clear hr0 hc0
 have HB:=aj.mk (Below.refl w.heap.size w)
 have H:=h
 clear h
 unfold aG.f at H
 have HC2:=aj.mk H
 clear H
 go_enter Tryz.func115,Tryz.ntmps115
 go_upto_region 1 with (fail)
 repeat (go_quiet (fail);go_upto_region 1 with (fail))
 go_cut [22] (fun v22 wc=>∃ (kq:Nat) (akj:Bool),v22 = .bool akj∧aj (aG.j0 kq l0 akj=some (r1,r2))∧aj (kq≤k)∧aj (Below w.heap.size w wc))
 case first =>
  have H:=HC2.out
  clear HC2
  by_cases c3:(l0.length:Int) < 1
  ·rw [if_pos c3] at H
   have gq:=decide_eq_true c3
   have yD:decide (l0.length < 1)=true:=decide_eq_true (by omega)
   clear c3
   (first|rw [gq]|(simp only [cZ,dB];rw [gq])|skip)
   have H':=aj.mk H
   clear H
   go_wp2
   repeat (go_quiet (fail);try go_wp2)
   go_meet
   case rel=>exact ⟨_,(true),zT,H',⟨by first|omega|exact Nat.le_refl _⟩,⟨zB⟩⟩
  ·rw [if_neg c3] at H
   have gq:=decide_eq_false c3
   have yD:decide (l0.length < 1)=false:=decide_eq_false (by omega)
   clear c3
   (first|rw [gq]|(simp only [cZ,dB];rw [gq])|skip)
   have H':=aj.mk H
   clear H
   go_wp2
   repeat (go_quiet (fail);try go_wp2)
   go_meet
   case rel=>exact ⟨_,(decide ((l0.length:Int) > 1048576)),zT,H',⟨by first|omega|exact Nat.le_refl _⟩,⟨zB⟩⟩
 case rest =>
  clear HC2
  obtain ⟨kq,akj,rfl,HA,HJ1,HB⟩:=hcut
  cases kq with
  | zero=>exact absurd HA.out (by simp [aG.j0])
  | succ kj1 =>
   have H:=HA.out
   clear HA
   simp only [aG.j0] at H
   by_cases c4:akj=true
   ·subst c4
    rw [if_pos rfl] at H;try dsimp only at H
    simp only [Option.some.injEq,Prod.mk.injEq] at H
    obtain ⟨rfl,rfl⟩:=H
    go_wp2
    repeat (go_quiet (fail);try go_wp2)
    go_ret2
    exact ⟨_,zS,by first|exact Kd.kS _ _ _ _ _|exact Kd.pz _ _ _ _ _|exact Kd.nM _ _ _ _ _|exact Kd.pF _ _ _ _ _|exact Kd.oH _ _ _ _ _,zB⟩
   ·replace c4:=Bool.eq_false_iff.mpr c4
    subst c4
    rw [if_neg (show ¬ (false=true) by decide)] at H;try dsimp only at H
    have H':=aj.mk H
    clear H
    go_wp2
    repeat (go_quiet (fail);try go_wp2)
    go_loopg [25] kj1 (fun kq v25 w'=>∃ (rD:Int),v25 = .int .i64 rD∧aj (aG.l0 kq l0 l0 (l0.length:Int) rD=some (r1,r2))∧aj (kq≤kj1)∧aj (Below w.heap.size w w'))
    case atStart=>exact ⟨(0),zT,H',⟨Nat.le_refl _⟩,⟨zB⟩⟩
    case round =>
     clear H'
     obtain ⟨rD,rfl,HA,HK2,HB⟩:=hrel
     cases gk with
     | zero=>exact absurd HA.out (by simp [aG.l0])
     | succ k2 =>
      have H:=HA.out
      clear HA
      simp only [aG.l0] at H
      by_cases c5:rD < (l0.length:Int)
      ·rw [if_pos c5] at H
       have iR:=decide_eq_true c5
       clear c5
       by_cases c6:0≤rD
       ·rw [if_pos c6] at H
        have iJ:=decide_eq_true c6
        clear c6
        by_cases c7:rD < (l0.length:Int)
        ·rw [if_pos c7] at H
         have jI:=decide_eq_true c7
         clear c7
         replace H:=zO H
         obtain ⟨ad5,A8,H⟩:=H
         try dsimp only at H
         by_cases c9:ad5 > 1099511627776
         ·rw [if_pos c9] at H
          have sO:=decide_eq_true c9
          clear c9
          simp only [Option.some.injEq,Prod.mk.injEq] at H
          obtain ⟨rfl,rfl⟩:=H
          have agE:0≤(rD:Int):=of_decide_eq_true (by first|(with_reducible assumption)|assumption)
          have agF:rD < (l0.length:Int):=of_decide_eq_true (by first|(with_reducible assumption)|assumption)
          obtain ⟨awU,aq1,aaK⟩:=Kd.jV HR0.out rD agE agF
          cases aq1
          replace aaK:=(HB.out.cell (World.block_lt_of_cell? w _ aaK)).trans aaK
          replace agE:=eq_true agE
          replace agF:=eq_true agF
          go_wp2_with (first|(go_at_call 142;(with_reducible refine (iU.calls (rd l0 rD) ad5 _ A8.out).mono ?_);rintro e w' ⟨rfl,⟨nd,rfl⟩⟩;(try exact ⟨rfl,_,zN⟩)))
          repeat (go_quiet (first|(go_at_call 142;(with_reducible refine (iU.calls (rd l0 rD) ad5 _ A8.out).mono ?_);rintro e w' ⟨rfl,⟨nd,rfl⟩⟩;(try exact ⟨rfl,_,zN⟩)));try go_wp2_with (first|(go_at_call 142;(with_reducible refine (iU.calls (rd l0 rD) ad5 _ A8.out).mono ?_);rintro e w' ⟨rfl,⟨nd,rfl⟩⟩;(try exact ⟨rfl,_,zN⟩))))
          go_ret2
          exact ⟨_,zS,by first|exact Kd.kS _ _ _ _ _|exact Kd.pz _ _ _ _ _|exact Kd.nM _ _ _ _ _|exact Kd.pF _ _ _ _ _|exact Kd.oH _ _ _ _ _,zB⟩
         ·rw [if_neg c9] at H
          have sO:=decide_eq_false c9
          clear c9
          have H':=aj.mk H
          clear H
          have agE:0≤(rD:Int):=of_decide_eq_true (by first|(with_reducible assumption)|assumption)
          have agF:rD < (l0.length:Int):=of_decide_eq_true (by first|(with_reducible assumption)|assumption)
          obtain ⟨awU,aq1,aaK⟩:=Kd.jV HR0.out rD agE agF
          cases aq1
          replace aaK:=(HB.out.cell (World.block_lt_of_cell? w _ aaK)).trans aaK
          replace agE:=eq_true agE
          replace agF:=eq_true agF
          go_wp2_with (first|(go_at_call 142;(with_reducible refine (iU.calls (rd l0 rD) ad5 _ A8.out).mono ?_);rintro e w' ⟨rfl,⟨nd,rfl⟩⟩;(try exact ⟨rfl,_,zN⟩)))
          repeat (go_quiet (first|(go_at_call 142;(with_reducible refine (iU.calls (rd l0 rD) ad5 _ A8.out).mono ?_);rintro e w' ⟨rfl,⟨nd,rfl⟩⟩;(try exact ⟨rfl,_,zN⟩)));try go_wp2_with (first|(go_at_call 142;(with_reducible refine (iU.calls (rd l0 rD) ad5 _ A8.out).mono ?_);rintro e w' ⟨rfl,⟨nd,rfl⟩⟩;(try exact ⟨rfl,_,zN⟩))))
          go_roundg k2
          case measure=>have:=HJ1.out;have:=HK2.out;omega
          case rel=>exact ⟨(wrap64 (rD+1)),zT,H',⟨by have:=HJ1.out;have:=HK2.out;omega⟩,⟨zB⟩⟩
        ·rw [if_neg c7] at H
         exact absurd H (by simp)
       ·rw [if_neg c6] at H
        exact absurd H (by simp)
      ·rw [if_neg c5] at H
       have iR:=decide_eq_false c5
       clear c5
       replace H:=zO H
       obtain ⟨rC,A10,H⟩:=H
       try dsimp only at H
       by_cases c11:rC < 268435456
       ·rw [if_pos c11] at H
        have jf:=decide_eq_true c11
        clear c11
        simp only [Option.some.injEq,Prod.mk.injEq] at H
        obtain ⟨rfl,rfl⟩:=H
        go_wp2_with (first|(go_at_call 143;(with_reducible refine (fC.calls k2 _ _ l0 rC _ ?iE ?iF A10.out).mono ?_);(case iE=>repeat (first|exact (Kd.bI HR0.out HB.out)|(with_reducible refine Kd.jd ?_ _)|(with_reducible refine Kd.jo ?_ _)|(with_reducible refine Kd.kC ?_)));(case iF=>exact HC0.out);rintro e w' ⟨rfl,⟨nd,rfl⟩⟩;(try exact ⟨rfl,_,zN⟩)))
        repeat (go_quiet (first|(go_at_call 143;(with_reducible refine (fC.calls k2 _ _ l0 rC _ ?iE ?iF A10.out).mono ?_);(case iE=>repeat (first|exact (Kd.bI HR0.out HB.out)|(with_reducible refine Kd.jd ?_ _)|(with_reducible refine Kd.jo ?_ _)|(with_reducible refine Kd.kC ?_)));(case iF=>exact HC0.out);rintro e w' ⟨rfl,⟨nd,rfl⟩⟩;(try exact ⟨rfl,_,zN⟩)));try go_wp2_with (first|(go_at_call 143;(with_reducible refine (fC.calls k2 _ _ l0 rC _ ?iE ?iF A10.out).mono ?_);(case iE=>repeat (first|exact (Kd.bI HR0.out HB.out)|(with_reducible refine Kd.jd ?_ _)|(with_reducible refine Kd.jo ?_ _)|(with_reducible refine Kd.kC ?_)));(case iF=>exact HC0.out);rintro e w' ⟨rfl,⟨nd,rfl⟩⟩;(try exact ⟨rfl,_,zN⟩))))
        go_ret2
        exact ⟨_,zS,by first|exact Kd.kS _ _ _ _ _|exact Kd.pz _ _ _ _ _|exact Kd.nM _ _ _ _ _|exact Kd.pF _ _ _ _ _|exact Kd.oH _ _ _ _ _,zB⟩
       ·rw [if_neg c11] at H
        have jf:=decide_eq_false c11
        clear c11
        have H':=aj.mk H
        clear H
        go_wp2_with (first|(go_at_call 143;(with_reducible refine (fC.calls k2 _ _ l0 rC _ ?iE ?iF A10.out).mono ?_);(case iE=>repeat (first|exact (Kd.bI HR0.out HB.out)|(with_reducible refine Kd.jd ?_ _)|(with_reducible refine Kd.jo ?_ _)|(with_reducible refine Kd.kC ?_)));(case iF=>exact HC0.out);rintro e w' ⟨rfl,⟨nd,rfl⟩⟩;(try exact ⟨rfl,_,zN⟩)))
        repeat (go_quiet (first|(go_at_call 143;(with_reducible refine (fC.calls k2 _ _ l0 rC _ ?iE ?iF A10.out).mono ?_);(case iE=>repeat (first|exact (Kd.bI HR0.out HB.out)|(with_reducible refine Kd.jd ?_ _)|(with_reducible refine Kd.jo ?_ _)|(with_reducible refine Kd.kC ?_)));(case iF=>exact HC0.out);rintro e w' ⟨rfl,⟨nd,rfl⟩⟩;(try exact ⟨rfl,_,zN⟩)));try go_wp2_with (first|(go_at_call 143;(with_reducible refine (fC.calls k2 _ _ l0 rC _ ?iE ?iF A10.out).mono ?_);(case iE=>repeat (first|exact (Kd.bI HR0.out HB.out)|(with_reducible refine Kd.jd ?_ _)|(with_reducible refine Kd.jo ?_ _)|(with_reducible refine Kd.kC ?_)));(case iF=>exact HC0.out);rintro e w' ⟨rfl,⟨nd,rfl⟩⟩;(try exact ⟨rfl,_,zN⟩))))
        try simp only [Act.put,List.setIfInBounds_toArray,List.set_cons_succ,List.set_cons_zero]
        go_loopg [7,8,9,39] k2 (fun kq v7 v8 v9 v39 w'=>∃ (aam:List Int) (acf:List Int) (xX:Int) (oP:Int),v9 = .int .i64 xX∧v39 = .int .i64 oP∧aj (aG.l1 kq rC aam acf xX l0 (l0.length:Int) oP=some (r1,r2))∧aj (kq≤k2)∧aj (Kd.R (Kd.int .i64) 2 w' w.heap.size (fun k_=>some k_≠(v8:Value).ownBlock) v7 aam)∧aj (Kd.R (Kd.int .i64) 2 w' w.heap.size (fun k_=>some k_≠(v7:Value).ownBlock) v8 acf)∧aj (Below w.heap.size w w'))
        case atStart=>exact ⟨(([]:List Int)),(([]:List Int)),(16384),(0),zT,zT,H',⟨Nat.le_refl _⟩,⟨by first|exact Kd.kS _ _ _ _ _|exact Kd.pz _ _ _ _ _|exact Kd.nM _ _ _ _ _|exact Kd.pF _ _ _ _ _|exact Kd.oH _ _ _ _ _⟩,⟨by first|exact Kd.kS _ _ _ _ _|exact Kd.pz _ _ _ _ _|exact Kd.nM _ _ _ _ _|exact Kd.pF _ _ _ _ _|exact Kd.oH _ _ _ _ _⟩,⟨zB⟩⟩
        case round =>
         clear H'
         try clear hx3
         obtain ⟨aam,acf,xX,oP,rfl,rfl,HA,HK3,gX,dS,HB⟩:=hrel
         cases gk with
         | zero=>exact absurd HA.out (by simp [aG.l1])
         | succ k3 =>
          have H:=HA.out
          clear HA
          simp only [aG.l1] at H
          by_cases c12:oP < (l0.length:Int)
          ·rw [if_pos c12] at H
           have abP:=decide_eq_true c12
           clear c12
           by_cases c13:0≤oP
           ·rw [if_pos c13] at H
            have aaZ:=decide_eq_true c13
            clear c13
            by_cases c14:oP < (l0.length:Int)
            ·rw [if_pos c14] at H
             have acO:=decide_eq_true c14
             clear c14
             replace H:=zO H
             obtain ⟨qQ,A15,H⟩:=H
             try dsimp only at H
             by_cases c16:aam.length < 17592186044416
             ·rw [if_pos c16] at H
              have an9:=aj.mk c16
              clear c16
              obtain ⟨aq2,ahz⟩:∃ y_:List Int,y_=(aam ++ [qQ]):=⟨_,rfl⟩
              replace H:(if acf.length < 17592186044416 then (aG.l1 k3 rC aq2 (acf ++ [wrap64 ((wrap64 ((rd l0 oP)*16384)) - (wrap64 (qQ*rC)))]) (wrap64 (xX - qQ)) l0 (l0.length:Int) (wrap64 (oP+1))) else (none))=some (r1,r2):=by first|(rw [ahz];with_reducible exact H)|(have H2_:=(Option.bind_some _ _).symm.trans H;rw [ahz];with_reducible exact H2_)|(have H2_:=(Option.bind_some _ _).symm.trans H;with_reducible exact H2_)|with_reducible exact H|(rw [ahz];exact H)|exact H
              have aoa:=aj.mk ahz
              clear ahz
              by_cases c17:acf.length < 17592186044416
              ·rw [if_pos c17] at H
               have aob:=aj.mk c17
               clear c17
               obtain ⟨auX,ahA⟩:∃ y_:List Int,y_=(acf ++ [wrap64 ((wrap64 ((rd l0 oP)*16384)) - (wrap64 (qQ*rC)))]):=⟨_,rfl⟩
               replace H:(aG.l1 k3 rC aq2 auX (wrap64 (xX - qQ)) l0 (l0.length:Int) (wrap64 (oP+1)))=some (r1,r2):=by first|(rw [ahA];with_reducible exact H)|(have H2_:=(Option.bind_some _ _).symm.trans H;rw [ahA];with_reducible exact H2_)|(have H2_:=(Option.bind_some _ _).symm.trans H;with_reducible exact H2_)|with_reducible exact H|(rw [ahA];exact H)|exact H
               have aoc:=aj.mk ahA
               clear ahA
               have H':=aj.mk H
               clear H
               have aq3:0≤(oP:Int):=of_decide_eq_true (by first|(with_reducible assumption)|assumption)
               have aq4:oP < (l0.length:Int):=of_decide_eq_true (by first|(with_reducible assumption)|assumption)
               obtain ⟨aCw,ayd,aiH⟩:=Kd.jV HR0.out oP aq3 aq4
               cases ayd
               replace aiH:=(HB.out.cell (World.block_lt_of_cell? w _ aiH)).trans aiH
               replace aq3:=eq_true aq3
               replace aq4:=eq_true aq4
               go_wp2_with (first|(go_at_call 144;(with_reducible refine (dZ.calls k3 (wrap64 ((rd l0 oP)*16384)) rC qQ _ A15.out).mono ?_);rintro e w18 ⟨rfl,hb⟩;obtain ⟨gX,dS,HB⟩:=zA3 (Kd.ji (by (with_reducible repeat (first|apply Kd.aK|apply Kd.aQ|apply Kd.aW));exact gX.out) hb) (Kd.ji (by (with_reducible repeat (first|apply Kd.aK|apply Kd.aQ|apply Kd.aW));exact dS.out) hb) (ak zB hb);(try clear hb))|((with_reducible refine jq (b := .append) (xs := #[.tmp 47,.tmp 49]) rfl ?_);(try (refine kW (by rfl) ?_;dsimp only));at_builtin;refine Kd.kV (Kd.int .i64) (w0:=w) w.heap.size rfl (.tmp 47) (.tmp 49) 44 2 (.int .i64 0) 8 rfl Tryz.underlying44 wY rfl (by decide) (by omega) u7 aam qQ [.int .i64 qQ] (fun k_=>some k_≠(u8:Value).ownBlock) (fun _=>False) rfl rfl ?aP (fun _ hk=>hk.elim) ?aF ?aO ?aB ?aS ?aL ?_;(case aP=>exact rfl);(case aB=>exact zB);(case aF=>exact (fun k_ hk=>Kd.fresh' (Kd.lQ (by (with_reducible repeat (first|apply Kd.aK|apply Kd.aQ|apply Kd.aW));exact dS.out)) k_ hk));(case aO=>exact (by (with_reducible repeat (first|apply Kd.aK|apply Kd.aQ|apply Kd.aW));exact gX.out));(case aS=>exact (bM zB));(case aL=>have:=an9.out;omega);intro alf w19 ho hb hg hat;rw [← aoa.out] at ho;obtain ⟨dS,HB,yT⟩:=zA3 (Kd.sV (ok:=(fun _=>True)) (by (with_reducible repeat (first|apply Kd.aK|apply Kd.aQ|apply Kd.aW));exact Kd.dM dS.out (fun _ hk=>⟨trivial,hk⟩)) hg hat) hb ho;clear ho hb hg hat)|((with_reducible refine jq (b := .append) (xs := #[.tmp 51,.tmp 58]) rfl ?_);(try (refine kW (by rfl) ?_;dsimp only));at_builtin;refine Kd.kV (Kd.int .i64) (w0:=w) w.heap.size rfl (.tmp 51) (.tmp 58) 44 2 (.int .i64 0) 8 rfl Tryz.underlying44 wY rfl (by decide) (by omega) u8 acf (wrap64 ((wrap64 ((rd l0 oP)*16384)) - (wrap64 (qQ*rC)))) [.int .i64 (wrap64 ((wrap64 ((rd l0 oP)*16384)) - (wrap64 (qQ*rC))))] (fun k_=>some k_≠(alf:Value).ownBlock) (fun _=>False) rfl rfl ?aP (fun _ hk=>hk.elim) ?aF ?aO ?aB ?aS ?aL ?_;(case aP=>exact rfl);(case aB=>exact zB);(case aF=>exact (fun k_ hk=>Kd.fresh' (Kd.lQ (by (with_reducible repeat (first|apply Kd.aK|apply Kd.aQ|apply Kd.aW));exact yT.out)) k_ hk));(case aO=>exact (by (with_reducible repeat (first|apply Kd.aK|apply Kd.aQ|apply Kd.aW));exact Kd.dM dS.out (fun _ hk=>hk.2)));(case aS=>exact (bM zB));(case aL=>have:=aob.out;omega);intro auY w20 ho hb hg hat;rw [← aoc.out] at ho;obtain ⟨yT,HB,aod⟩:=zA3 (Kd.sV (ok:=(fun _=>True)) (by (with_reducible repeat (first|apply Kd.aK|apply Kd.aQ|apply Kd.aW));exact Kd.dM yT.out (fun _ hk=>⟨trivial,hk⟩)) hg hat) hb ho;clear ho hb hg hat))
               repeat (go_quiet (first|(go_at_call 144;(with_reducible refine (dZ.calls k3 (wrap64 ((rd l0 oP)*16384)) rC qQ _ A15.out).mono ?_);rintro e w18 ⟨rfl,hb⟩;obtain ⟨gX,dS,HB⟩:=zA3 (Kd.ji (by (with_reducible repeat (first|apply Kd.aK|apply Kd.aQ|apply Kd.aW));exact gX.out) hb) (Kd.ji (by (with_reducible repeat (first|apply Kd.aK|apply Kd.aQ|apply Kd.aW));exact dS.out) hb) (ak zB hb);(try clear hb))|((with_reducible refine jq (b := .append) (xs := #[.tmp 47,.tmp 49]) rfl ?_);(try (refine kW (by rfl) ?_;dsimp only));at_builtin;refine Kd.kV (Kd.int .i64) (w0:=w) w.heap.size rfl (.tmp 47) (.tmp 49) 44 2 (.int .i64 0) 8 rfl Tryz.underlying44 wY rfl (by decide) (by omega) u7 aam qQ [.int .i64 qQ] (fun k_=>some k_≠(u8:Value).ownBlock) (fun _=>False) rfl rfl ?aP (fun _ hk=>hk.elim) ?aF ?aO ?aB ?aS ?aL ?_;(case aP=>exact rfl);(case aB=>exact zB);(case aF=>exact (fun k_ hk=>Kd.fresh' (Kd.lQ (by (with_reducible repeat (first|apply Kd.aK|apply Kd.aQ|apply Kd.aW));exact dS.out)) k_ hk));(case aO=>exact (by (with_reducible repeat (first|apply Kd.aK|apply Kd.aQ|apply Kd.aW));exact gX.out));(case aS=>exact (bM zB));(case aL=>have:=an9.out;omega);intro alf w19 ho hb hg hat;rw [← aoa.out] at ho;obtain ⟨dS,HB,yT⟩:=zA3 (Kd.sV (ok:=(fun _=>True)) (by (with_reducible repeat (first|apply Kd.aK|apply Kd.aQ|apply Kd.aW));exact Kd.dM dS.out (fun _ hk=>⟨trivial,hk⟩)) hg hat) hb ho;clear ho hb hg hat)|((with_reducible refine jq (b := .append) (xs := #[.tmp 51,.tmp 58]) rfl ?_);(try (refine kW (by rfl) ?_;dsimp only));at_builtin;refine Kd.kV (Kd.int .i64) (w0:=w) w.heap.size rfl (.tmp 51) (.tmp 58) 44 2 (.int .i64 0) 8 rfl Tryz.underlying44 wY rfl (by decide) (by omega) u8 acf (wrap64 ((wrap64 ((rd l0 oP)*16384)) - (wrap64 (qQ*rC)))) [.int .i64 (wrap64 ((wrap64 ((rd l0 oP)*16384)) - (wrap64 (qQ*rC))))] (fun k_=>some k_≠(alf:Value).ownBlock) (fun _=>False) rfl rfl ?aP (fun _ hk=>hk.elim) ?aF ?aO ?aB ?aS ?aL ?_;(case aP=>exact rfl);(case aB=>exact zB);(case aF=>exact (fun k_ hk=>Kd.fresh' (Kd.lQ (by (with_reducible repeat (first|apply Kd.aK|apply Kd.aQ|apply Kd.aW));exact yT.out)) k_ hk));(case aO=>exact (by (with_reducible repeat (first|apply Kd.aK|apply Kd.aQ|apply Kd.aW));exact Kd.dM dS.out (fun _ hk=>hk.2)));(case aS=>exact (bM zB));(case aL=>have:=aob.out;omega);intro auY w20 ho hb hg hat;rw [← aoc.out] at ho;obtain ⟨yT,HB,aod⟩:=zA3 (Kd.sV (ok:=(fun _=>True)) (by (with_reducible repeat (first|apply Kd.aK|apply Kd.aQ|apply Kd.aW));exact Kd.dM yT.out (fun _ hk=>⟨trivial,hk⟩)) hg hat) hb ho;clear ho hb hg hat));try go_wp2_with (first|(go_at_call 144;(with_reducible refine (dZ.calls k3 (wrap64 ((rd l0 oP)*16384)) rC qQ _ A15.out).mono ?_);rintro e w18 ⟨rfl,hb⟩;obtain ⟨gX,dS,HB⟩:=zA3 (Kd.ji (by (with_reducible repeat (first|apply Kd.aK|apply Kd.aQ|apply Kd.aW));exact gX.out) hb) (Kd.ji (by (with_reducible repeat (first|apply Kd.aK|apply Kd.aQ|apply Kd.aW));exact dS.out) hb) (ak zB hb);(try clear hb))|((with_reducible refine jq (b := .append) (xs := #[.tmp 47,.tmp 49]) rfl ?_);(try (refine kW (by rfl) ?_;dsimp only));at_builtin;refine Kd.kV (Kd.int .i64) (w0:=w) w.heap.size rfl (.tmp 47) (.tmp 49) 44 2 (.int .i64 0) 8 rfl Tryz.underlying44 wY rfl (by decide) (by omega) u7 aam qQ [.int .i64 qQ] (fun k_=>some k_≠(u8:Value).ownBlock) (fun _=>False) rfl rfl ?aP (fun _ hk=>hk.elim) ?aF ?aO ?aB ?aS ?aL ?_;(case aP=>exact rfl);(case aB=>exact zB);(case aF=>exact (fun k_ hk=>Kd.fresh' (Kd.lQ (by (with_reducible repeat (first|apply Kd.aK|apply Kd.aQ|apply Kd.aW));exact dS.out)) k_ hk));(case aO=>exact (by (with_reducible repeat (first|apply Kd.aK|apply Kd.aQ|apply Kd.aW));exact gX.out));(case aS=>exact (bM zB));(case aL=>have:=an9.out;omega);intro alf w19 ho hb hg hat;rw [← aoa.out] at ho;obtain ⟨dS,HB,yT⟩:=zA3 (Kd.sV (ok:=(fun _=>True)) (by (with_reducible repeat (first|apply Kd.aK|apply Kd.aQ|apply Kd.aW));exact Kd.dM dS.out (fun _ hk=>⟨trivial,hk⟩)) hg hat) hb ho;clear ho hb hg hat)|((with_reducible refine jq (b := .append) (xs := #[.tmp 51,.tmp 58]) rfl ?_);(try (refine kW (by rfl) ?_;dsimp only));at_builtin;refine Kd.kV (Kd.int .i64) (w0:=w) w.heap.size rfl (.tmp 51) (.tmp 58) 44 2 (.int .i64 0) 8 rfl Tryz.underlying44 wY rfl (by decide) (by omega) u8 acf (wrap64 ((wrap64 ((rd l0 oP)*16384)) - (wrap64 (qQ*rC)))) [.int .i64 (wrap64 ((wrap64 ((rd l0 oP)*16384)) - (wrap64 (qQ*rC))))] (fun k_=>some k_≠(alf:Value).ownBlock) (fun _=>False) rfl rfl ?aP (fun _ hk=>hk.elim) ?aF ?aO ?aB ?aS ?aL ?_;(case aP=>exact rfl);(case aB=>exact zB);(case aF=>exact (fun k_ hk=>Kd.fresh' (Kd.lQ (by (with_reducible repeat (first|apply Kd.aK|apply Kd.aQ|apply Kd.aW));exact yT.out)) k_ hk));(case aO=>exact (by (with_reducible repeat (first|apply Kd.aK|apply Kd.aQ|apply Kd.aW));exact Kd.dM dS.out (fun _ hk=>hk.2)));(case aS=>exact (bM zB));(case aL=>have:=aob.out;omega);intro auY w20 ho hb hg hat;rw [← aoc.out] at ho;obtain ⟨yT,HB,aod⟩:=zA3 (Kd.sV (ok:=(fun _=>True)) (by (with_reducible repeat (first|apply Kd.aK|apply Kd.aQ|apply Kd.aW));exact Kd.dM yT.out (fun _ hk=>⟨trivial,hk⟩)) hg hat) hb ho;clear ho hb hg hat)))
               go_roundg k3
               case measure=>have:=HJ1.out;have:=HK2.out;have:=HK3.out;omega
               case rel=>exact ⟨(aq2),(auX),(wrap64 (xX - qQ)),(wrap64 (oP+1)),zT,zT,H',⟨by have:=HJ1.out;have:=HK2.out;have:=HK3.out;omega⟩,⟨by (with_reducible repeat (first|apply Kd.aK|apply Kd.aQ|apply Kd.aW));exact Kd.dM yT.out (fun _ hk=>hk.2)⟩,⟨by (with_reducible repeat (first|apply Kd.aK|apply Kd.aQ|apply Kd.aW));exact aod.out⟩,⟨zB⟩⟩
              ·rw [if_neg c17] at H
               exact absurd H (by simp)
             ·rw [if_neg c16] at H
              exact absurd H (by simp)
            ·rw [if_neg c14] at H
             exact absurd H (by simp)
           ·rw [if_neg c13] at H
            exact absurd H (by simp)
          ·rw [if_neg c12] at H
           have abP:=decide_eq_false c12
           clear c12
           have H':=aj.mk H
           clear H
           go_wp2
           repeat (go_quiet (fail);try go_wp2)
           try simp only [Act.put,List.setIfInBounds_toArray,List.set_cons_succ,List.set_cons_zero]
           go_loopg [9] k3 (fun kq v9 w'=>∃ (lX:List Int) (lM:List Int) (afb:Int),v9 = .int .i64 afb∧aj (aG.l2 kq lX lM afb=some (r1,r2))∧aj (kq≤k3)∧aj (Kd.R (Kd.int .i64) 2 w' w.heap.size (fun k_=>some k_≠(u8:Value).ownBlock) u7 lX)∧aj (Kd.R (Kd.int .i64) 2 w' w.heap.size (fun k_=>some k_≠(u7:Value).ownBlock) u8 lM)∧aj (Below w.heap.size w w'))
           case atStart=>exact ⟨(aam),(acf),(xX),zT,H',⟨Nat.le_refl _⟩,⟨by (with_reducible repeat (first|apply Kd.aK|apply Kd.aQ|apply Kd.aW));exact gX.out⟩,⟨by (with_reducible repeat (first|apply Kd.aK|apply Kd.aQ|apply Kd.aW));exact dS.out⟩,⟨zB⟩⟩
           case round =>
            clear H'
            try clear hx3
            obtain ⟨lX,lM,afb,rfl,HA,HK4,gX,dS,HB⟩:=hrel
            cases gk with
            | zero=>exact absurd HA.out (by simp [aG.l2])
            | succ k4 =>
             have H:=HA.out
             clear HA
             simp only [aG.l2] at H
             by_cases c21:afb > 0
             ·rw [if_pos c21] at H
              have aan:=decide_eq_true c21
              clear c21
              have H':=aj.mk H
              clear H
              obtain ⟨agG,yE,aq5⟩:=Kd.gQ dS.out
              subst aq5
              go_wp2
              repeat (go_quiet (fail);try go_wp2)
              try simp only [Act.put,List.setIfInBounds_toArray,List.set_cons_succ,List.set_cons_zero]
              go_loopg [13,68] k4 (fun kq v13 v68 w'=>∃ (fU:Int) (uM:Int),v13 = .int .i64 fU∧v68 = .int .i64 uM∧aj (aG.l3 kq lX lM afb fU (lM.length:Int) uM=some (r1,r2))∧aj (kq≤k4)∧aj (Kd.R (Kd.int .i64) 2 w' w.heap.size (fun k_=>some k_≠((.slice agG lM.length yE):Value).ownBlock) u7 lX)∧aj (Kd.R (Kd.int .i64) 2 w' w.heap.size (fun k_=>some k_≠(u7:Value).ownBlock) (.slice agG lM.length yE) lM)∧aj (Below w.heap.size w w'))
              case atStart=>exact ⟨(0),(0),zT,zT,H',⟨Nat.le_refl _⟩,⟨by (with_reducible repeat (first|apply Kd.aK|apply Kd.aQ|apply Kd.aW));exact gX.out⟩,⟨by (with_reducible repeat (first|apply Kd.aK|apply Kd.aQ|apply Kd.aW));exact dS.out⟩,⟨zB⟩⟩
              case round =>
               clear H'
               try clear hx3
               obtain ⟨fU,uM,rfl,rfl,HA,HK5,gX,dS,HB⟩:=hrel
               cases gk with
               | zero=>exact absurd HA.out (by simp [aG.l3])
               | succ k5 =>
                have H:=HA.out
                clear HA
                simp only [aG.l3] at H
                by_cases c23:uM < (lM.length:Int)
                ·rw [if_pos c23] at H
                 have aoe:=decide_eq_true c23
                 clear c23
                 by_cases c24:0≤uM
                 ·rw [if_pos c24] at H
                  have awV:=decide_eq_true c24
                  clear c24
                  by_cases c25:uM < (lM.length:Int)
                  ·rw [if_pos c25] at H
                   have aCx:=decide_eq_true c25
                   clear c25
                   by_cases c26:0≤fU
                   ·rw [if_pos c26] at H
                    have afO:=decide_eq_true c26
                    clear c26
                    by_cases c27:fU < (lM.length:Int)
                    ·rw [if_pos c27] at H
                     have aCy:=decide_eq_true c27
                     clear c27
                     by_cases c28:(rd lM uM) > (rd lM fU)
                     ·rw [if_pos c28] at H
                      have aof:=decide_eq_true c28
                      clear c28
                      have H':=aj.mk H
                      clear H
                      have agH:0≤(uM:Int):=of_decide_eq_true (by first|(with_reducible assumption)|assumption)
                      have agI:uM < (lM.length:Int):=of_decide_eq_true (by first|(with_reducible assumption)|assumption)
                      obtain ⟨aog,aq6,atO⟩:=Kd.jV (Kd.dP dS.out).2.2 uM agH agI
                      cases aq6
                      replace agH:=eq_true agH
                      replace agI:=eq_true agI
                      have agJ:0≤(fU:Int):=of_decide_eq_true (by first|(with_reducible assumption)|assumption)
                      have agK:fU < (lM.length:Int):=of_decide_eq_true (by first|(with_reducible assumption)|assumption)
                      obtain ⟨aoh,aq7,atP⟩:=Kd.jV (Kd.dP dS.out).2.2 fU agJ agK
                      obtain rfl:aog=aoh:=(by injection aq7)
                      replace agJ:=eq_true agJ
                      replace agK:=eq_true agK
                      go_wp2
                      repeat (go_quiet (fail);try go_wp2)
                      go_roundg k5
                      case measure=>have:=HJ1.out;have:=HK2.out;have:=HK3.out;have:=HK4.out;have:=HK5.out;omega
                      case rel=>exact ⟨(uM),(wrap64 (uM+1)),zT,zT,H',⟨by have:=HJ1.out;have:=HK2.out;have:=HK3.out;have:=HK4.out;have:=HK5.out;omega⟩,⟨by (with_reducible repeat (first|apply Kd.aK|apply Kd.aQ|apply Kd.aW));exact gX.out⟩,⟨by (with_reducible repeat (first|apply Kd.aK|apply Kd.aQ|apply Kd.aW));exact dS.out⟩,⟨zB⟩⟩
                     ·rw [if_neg c28] at H
                      have aof:=decide_eq_false c28
                      clear c28
                      have H':=aj.mk H
                      clear H
                      have agH:0≤(uM:Int):=of_decide_eq_true (by first|(with_reducible assumption)|assumption)
                      have agI:uM < (lM.length:Int):=of_decide_eq_true (by first|(with_reducible assumption)|assumption)
                      obtain ⟨aog,aq6,atO⟩:=Kd.jV (Kd.dP dS.out).2.2 uM agH agI
                      cases aq6
                      replace agH:=eq_true agH
                      replace agI:=eq_true agI
                      have agJ:0≤(fU:Int):=of_decide_eq_true (by first|(with_reducible assumption)|assumption)
                      have agK:fU < (lM.length:Int):=of_decide_eq_true (by first|(with_reducible assumption)|assumption)
                      obtain ⟨aoh,aq7,atP⟩:=Kd.jV (Kd.dP dS.out).2.2 fU agJ agK
                      obtain rfl:aog=aoh:=(by injection aq7)
                      replace agJ:=eq_true agJ
                      replace agK:=eq_true agK
                      go_wp2
                      repeat (go_quiet (fail);try go_wp2)
                      go_roundg k5
                      case measure=>have:=HJ1.out;have:=HK2.out;have:=HK3.out;have:=HK4.out;have:=HK5.out;omega
                      case rel=>exact ⟨(fU),(wrap64 (uM+1)),zT,zT,H',⟨by have:=HJ1.out;have:=HK2.out;have:=HK3.out;have:=HK4.out;have:=HK5.out;omega⟩,⟨by (with_reducible repeat (first|apply Kd.aK|apply Kd.aQ|apply Kd.aW));exact gX.out⟩,⟨by (with_reducible repeat (first|apply Kd.aK|apply Kd.aQ|apply Kd.aW));exact dS.out⟩,⟨zB⟩⟩
                    ·rw [if_neg c27] at H
                     exact absurd H (by simp)
                   ·rw [if_neg c26] at H
                    exact absurd H (by simp)
                  ·rw [if_neg c25] at H
                   exact absurd H (by simp)
                 ·rw [if_neg c24] at H
                  exact absurd H (by simp)
                ·rw [if_neg c23] at H
                 have aoe:=decide_eq_false c23
                 clear c23
                 by_cases c29:0≤fU
                 ·rw [if_pos c29] at H
                  have anS:=decide_eq_true c29
                  clear c29
                  by_cases c30:fU < (lX.length:Int)
                  ·rw [if_pos c30] at H
                   have asY:=decide_eq_true c30
                   clear c30
                   obtain ⟨aiI,ahB⟩:∃ y_:List Int,y_=(lX.set (fU:Int).toNat (wrap64 ((rd lX fU)+1))):=⟨_,rfl⟩
                   replace H:(if fU < (lM.length:Int) then (aG.l2 k5 aiI (lM.set (fU:Int).toNat (-1)) (wrap64 (afb - 1))) else (none))=some (r1,r2):=by first|(rw [ahB];with_reducible exact H)|(have H2_:=(Option.bind_some _ _).symm.trans H;rw [ahB];with_reducible exact H2_)|(have H2_:=(Option.bind_some _ _).symm.trans H;with_reducible exact H2_)|with_reducible exact H|(rw [ahB];exact H)|exact H
                   have aoi:=aj.mk ahB
                   clear ahB
                   by_cases c32:fU < (lM.length:Int)
                   ·rw [if_pos c32] at H
                    have aCz:=decide_eq_true c32
                    clear c32
                    obtain ⟨alg,ahC⟩:∃ y_:List Int,y_=(lM.set (fU:Int).toNat (-1)):=⟨_,rfl⟩
                    replace H:(aG.l2 k5 aiI alg (wrap64 (afb - 1)))=some (r1,r2):=by first|(rw [ahC];with_reducible exact H)|(have H2_:=(Option.bind_some _ _).symm.trans H;rw [ahC];with_reducible exact H2_)|(have H2_:=(Option.bind_some _ _).symm.trans H;with_reducible exact H2_)|with_reducible exact H|(rw [ahC];exact H)|exact H
                    have aoj:=aj.mk ahC
                    clear ahC
                    have H':=aj.mk H
                    clear H
                    obtain ⟨aye,vW,aq8⟩:=Kd.gQ gX.out
                    subst aq8
                    have aq9:0≤(fU:Int):=of_decide_eq_true (by first|(with_reducible assumption)|assumption)
                    have ara:fU < (lX.length:Int):=of_decide_eq_true (by first|(with_reducible assumption)|assumption)
                    obtain ⟨aCA,ayf,atQ⟩:=Kd.jV (Kd.dP gX.out).2.2 fU aq9 ara
                    cases ayf
                    replace aq9:=eq_true aq9
                    replace ara:=eq_true ara
                    have p31:0≤(fU:Int):=of_decide_eq_true (by first|(with_reducible assumption)|assumption)
                    have q31:(fU:Int) < ((lX.length:Int):Int):=of_decide_eq_true (by first|(with_reducible assumption)|assumption)
                    obtain ⟨rE,aDE,auZ,au0,ayg,aDF,au1⟩:=Kd.ahb gX.out (by omega)
                    (first|cases auZ|(injection auZ with ea_ en_ ec_;(first|subst ea_|(injection ea_ with ea_;subst ea_));subst ec_;clear en_))
                    have arb:=aj.mk au0
                    have aDG:=aj.mk au1
                    clear au0 ayg au1
                    (first|simp only [add_plain] at atQ|skip)
                    obtain ⟨aAv,aAw⟩:=Kd.wJ 0 gX.out (fU:Int) p31 q31
                    replace p31:=eq_true p31
                    replace q31:=eq_true q31
                    have abC:=Kd.yK gX.out (fU:Int) (wrap64 ((rd lX fU)+1))
                    go_wp2_with (first|((with_reducible refine yt (t:=2) (p:=87) rfl ?_);(try (rw [oI wr];generalize hq_:World.drewN wr _=wr;obtain ⟨gX,dS,HB⟩:=zA3 (Kd.acg hq_ gX.out) (Kd.acg hq_ dS.out) (ach hq_ HB.out);(try (have abC:=Kd.yK gX.out (fU:Int) (wrap64 ((rd lX fU)+1))))));refine wK (t:=2) (p:=87) (v := ?apA) (w1:=(wr.setCell ⟨rE,(fU:Int).toNat,none⟩ (.int .i64 (wrap64 ((rd lX fU)+1))))) ?hg ?ho ?hn ?hr ?_;(case ho=>rfl);(case hg=>rfl);(case hn=>rfl);(case hr=>first|(go_simp;done)|(go_simp;rfl));intro w36 hw;have hg:wr.grownBy w36 (some rE):=(by rw [hw];exact abC.2);have hp_:Kd.R (Kd.int .i64) 2 w36 w.heap.size (fun k_=>some k_≠(.slice agG lM.length yE:Value).ownBlock) (.slice (some ⟨rE,0,none⟩) lX.length vW) aiI:=(by rw [hw,aoi.out];exact abC.1);clear abC;obtain ⟨gX,dS,HB⟩:=zA3 hp_ (Kd.sV (v:=(.slice (some ⟨rE,0,none⟩) lX.length vW)) (v1:=(.slice (some ⟨rE,0,none⟩) lX.length vW)) (ok:=(fun _=>True)) (by (with_reducible repeat (first|apply Kd.aK|apply Kd.aQ|apply Kd.aW));exact Kd.dM dS.out (fun _ hk=>⟨trivial,hk⟩)) hg (.inl rfl)) ((by rw [hw];exact tC (HB.out) arb.out:Below w.heap.size w w36));clear hg hw hp_;have p33:0≤(fU:Int):=of_decide_eq_true (by first|(with_reducible assumption)|assumption);have q33:(fU:Int) < ((lM.length:Int):Int):=of_decide_eq_true (by first|(with_reducible assumption)|assumption);obtain ⟨xY,ard,adb,afc,alh,au2,afd⟩:=Kd.ahb dS.out (by omega);(first|cases adb|(injection adb with ea_ en_ ec_;(first|subst ea_|(injection ea_ with ea_;subst ea_));subst ec_;clear en_));have ali:=aj.mk afc;have au3:=aj.mk afd;clear afc alh afd;obtain ⟨apB,apC⟩:=Kd.wJ 0 dS.out (fU:Int) p33 q33;replace p33:=eq_true p33;replace q33:=eq_true q33;have n_:=aj.mk (Kd.dM (ok':=(fun k_=>some k_≠(.slice (some ⟨rE,0,none⟩) lX.length vW:Value).ownBlock)) dS.out (fun k_ hk=>hk.2));clear dS;have dS:=n_;clear n_;obtain ⟨ahD,ahE⟩:=Kd.wJ 0 dS.out (fU:Int) (of_decide_eq_true (by first|(with_reducible assumption)|assumption)) (of_decide_eq_true (by first|(with_reducible assumption)|assumption));have aao:=Kd.yK dS.out (fU:Int) (-1))|((with_reducible refine yt (t:=2) (p:=90) rfl ?_);(try (rw [oI w36];generalize hq_:World.drewN w36 _=w36;obtain ⟨gX,dS,HB⟩:=zA3 (Kd.acg hq_ gX.out) (Kd.acg hq_ dS.out) (ach hq_ HB.out);(try (have n_:=aj.mk (Kd.dM (ok':=(fun k_=>some k_≠(.slice (some ⟨rE,0,none⟩) lX.length vW:Value).ownBlock)) dS.out (fun k_ hk=>hk.2));clear dS;have dS:=n_;clear n_));(try (obtain ⟨ahD,ahE⟩:=Kd.wJ 0 dS.out (fU:Int) (of_decide_eq_true (by first|(with_reducible assumption)|assumption)) (of_decide_eq_true (by first|(with_reducible assumption)|assumption))));(try (have aao:=Kd.yK dS.out (fU:Int) (-1)))));refine wK (t:=2) (p:=90) (v := ?apD) (w1:=(w36.setCell ⟨xY,(fU:Int).toNat,none⟩ (.int .i64 (-1)))) ?hg ?ho ?hn ?hr ?_;(case ho=>rfl);(case hg=>rfl);(case hn=>rfl);(case hr=>first|(go_simp;done)|(go_simp;rfl));intro w38 hw;have hg:w36.grownBy w38 (some xY):=(by rw [hw];exact aao.2);have hp_:Kd.R (Kd.int .i64) 2 w38 w.heap.size (fun k_=>some k_≠(.slice (some ⟨rE,0,none⟩) lX.length vW:Value).ownBlock) (.slice (some ⟨xY,0,none⟩) lM.length yE) alg:=(by rw [hw,aoj.out];exact aao.1);clear aao;obtain ⟨gX,dS,HB⟩:=zA3 (Kd.sV (v:=(.slice (some ⟨xY,0,none⟩) lM.length yE)) (v1:=(.slice (some ⟨xY,0,none⟩) lM.length yE)) (ok:=(fun _=>True)) (by (with_reducible repeat (first|apply Kd.aK|apply Kd.aQ|apply Kd.aW));exact Kd.dM gX.out (fun _ hk=>⟨trivial,hk⟩)) hg (.inl rfl)) hp_ ((by rw [hw];exact tC (HB.out) ali.out:Below w.heap.size w w38));clear hg hw hp_))
                    repeat (go_quiet (first|((with_reducible refine yt (t:=2) (p:=87) rfl ?_);(try (rw [oI wr];generalize hq_:World.drewN wr _=wr;obtain ⟨gX,dS,HB⟩:=zA3 (Kd.acg hq_ gX.out) (Kd.acg hq_ dS.out) (ach hq_ HB.out);(try (have abC:=Kd.yK gX.out (fU:Int) (wrap64 ((rd lX fU)+1))))));refine wK (t:=2) (p:=87) (v := ?apA) (w1:=(wr.setCell ⟨rE,(fU:Int).toNat,none⟩ (.int .i64 (wrap64 ((rd lX fU)+1))))) ?hg ?ho ?hn ?hr ?_;(case ho=>rfl);(case hg=>rfl);(case hn=>rfl);(case hr=>first|(go_simp;done)|(go_simp;rfl));intro w36 hw;have hg:wr.grownBy w36 (some rE):=(by rw [hw];exact abC.2);have hp_:Kd.R (Kd.int .i64) 2 w36 w.heap.size (fun k_=>some k_≠(.slice agG lM.length yE:Value).ownBlock) (.slice (some ⟨rE,0,none⟩) lX.length vW) aiI:=(by rw [hw,aoi.out];exact abC.1);clear abC;obtain ⟨gX,dS,HB⟩:=zA3 hp_ (Kd.sV (v:=(.slice (some ⟨rE,0,none⟩) lX.length vW)) (v1:=(.slice (some ⟨rE,0,none⟩) lX.length vW)) (ok:=(fun _=>True)) (by (with_reducible repeat (first|apply Kd.aK|apply Kd.aQ|apply Kd.aW));exact Kd.dM dS.out (fun _ hk=>⟨trivial,hk⟩)) hg (.inl rfl)) ((by rw [hw];exact tC (HB.out) arb.out:Below w.heap.size w w36));clear hg hw hp_;have p33:0≤(fU:Int):=of_decide_eq_true (by first|(with_reducible assumption)|assumption);have q33:(fU:Int) < ((lM.length:Int):Int):=of_decide_eq_true (by first|(with_reducible assumption)|assumption);obtain ⟨xY,ard,adb,afc,alh,au2,afd⟩:=Kd.ahb dS.out (by omega);(first|cases adb|(injection adb with ea_ en_ ec_;(first|subst ea_|(injection ea_ with ea_;subst ea_));subst ec_;clear en_));have ali:=aj.mk afc;have au3:=aj.mk afd;clear afc alh afd;obtain ⟨apB,apC⟩:=Kd.wJ 0 dS.out (fU:Int) p33 q33;replace p33:=eq_true p33;replace q33:=eq_true q33;have n_:=aj.mk (Kd.dM (ok':=(fun k_=>some k_≠(.slice (some ⟨rE,0,none⟩) lX.length vW:Value).ownBlock)) dS.out (fun k_ hk=>hk.2));clear dS;have dS:=n_;clear n_;obtain ⟨ahD,ahE⟩:=Kd.wJ 0 dS.out (fU:Int) (of_decide_eq_true (by first|(with_reducible assumption)|assumption)) (of_decide_eq_true (by first|(with_reducible assumption)|assumption));have aao:=Kd.yK dS.out (fU:Int) (-1))|((with_reducible refine yt (t:=2) (p:=90) rfl ?_);(try (rw [oI w36];generalize hq_:World.drewN w36 _=w36;obtain ⟨gX,dS,HB⟩:=zA3 (Kd.acg hq_ gX.out) (Kd.acg hq_ dS.out) (ach hq_ HB.out);(try (have n_:=aj.mk (Kd.dM (ok':=(fun k_=>some k_≠(.slice (some ⟨rE,0,none⟩) lX.length vW:Value).ownBlock)) dS.out (fun k_ hk=>hk.2));clear dS;have dS:=n_;clear n_));(try (obtain ⟨ahD,ahE⟩:=Kd.wJ 0 dS.out (fU:Int) (of_decide_eq_true (by first|(with_reducible assumption)|assumption)) (of_decide_eq_true (by first|(with_reducible assumption)|assumption))));(try (have aao:=Kd.yK dS.out (fU:Int) (-1)))));refine wK (t:=2) (p:=90) (v := ?apD) (w1:=(w36.setCell ⟨xY,(fU:Int).toNat,none⟩ (.int .i64 (-1)))) ?hg ?ho ?hn ?hr ?_;(case ho=>rfl);(case hg=>rfl);(case hn=>rfl);(case hr=>first|(go_simp;done)|(go_simp;rfl));intro w38 hw;have hg:w36.grownBy w38 (some xY):=(by rw [hw];exact aao.2);have hp_:Kd.R (Kd.int .i64) 2 w38 w.heap.size (fun k_=>some k_≠(.slice (some ⟨rE,0,none⟩) lX.length vW:Value).ownBlock) (.slice (some ⟨xY,0,none⟩) lM.length yE) alg:=(by rw [hw,aoj.out];exact aao.1);clear aao;obtain ⟨gX,dS,HB⟩:=zA3 (Kd.sV (v:=(.slice (some ⟨xY,0,none⟩) lM.length yE)) (v1:=(.slice (some ⟨xY,0,none⟩) lM.length yE)) (ok:=(fun _=>True)) (by (with_reducible repeat (first|apply Kd.aK|apply Kd.aQ|apply Kd.aW));exact Kd.dM gX.out (fun _ hk=>⟨trivial,hk⟩)) hg (.inl rfl)) hp_ ((by rw [hw];exact tC (HB.out) ali.out:Below w.heap.size w w38));clear hg hw hp_));try go_wp2_with (first|((with_reducible refine yt (t:=2) (p:=87) rfl ?_);(try (rw [oI wr];generalize hq_:World.drewN wr _=wr;obtain ⟨gX,dS,HB⟩:=zA3 (Kd.acg hq_ gX.out) (Kd.acg hq_ dS.out) (ach hq_ HB.out);(try (have abC:=Kd.yK gX.out (fU:Int) (wrap64 ((rd lX fU)+1))))));refine wK (t:=2) (p:=87) (v := ?apA) (w1:=(wr.setCell ⟨rE,(fU:Int).toNat,none⟩ (.int .i64 (wrap64 ((rd lX fU)+1))))) ?hg ?ho ?hn ?hr ?_;(case ho=>rfl);(case hg=>rfl);(case hn=>rfl);(case hr=>first|(go_simp;done)|(go_simp;rfl));intro w36 hw;have hg:wr.grownBy w36 (some rE):=(by rw [hw];exact abC.2);have hp_:Kd.R (Kd.int .i64) 2 w36 w.heap.size (fun k_=>some k_≠(.slice agG lM.length yE:Value).ownBlock) (.slice (some ⟨rE,0,none⟩) lX.length vW) aiI:=(by rw [hw,aoi.out];exact abC.1);clear abC;obtain ⟨gX,dS,HB⟩:=zA3 hp_ (Kd.sV (v:=(.slice (some ⟨rE,0,none⟩) lX.length vW)) (v1:=(.slice (some ⟨rE,0,none⟩) lX.length vW)) (ok:=(fun _=>True)) (by (with_reducible repeat (first|apply Kd.aK|apply Kd.aQ|apply Kd.aW));exact Kd.dM dS.out (fun _ hk=>⟨trivial,hk⟩)) hg (.inl rfl)) ((by rw [hw];exact tC (HB.out) arb.out:Below w.heap.size w w36));clear hg hw hp_;have p33:0≤(fU:Int):=of_decide_eq_true (by first|(with_reducible assumption)|assumption);have q33:(fU:Int) < ((lM.length:Int):Int):=of_decide_eq_true (by first|(with_reducible assumption)|assumption);obtain ⟨xY,ard,adb,afc,alh,au2,afd⟩:=Kd.ahb dS.out (by omega);(first|cases adb|(injection adb with ea_ en_ ec_;(first|subst ea_|(injection ea_ with ea_;subst ea_));subst ec_;clear en_));have ali:=aj.mk afc;have au3:=aj.mk afd;clear afc alh afd;obtain ⟨apB,apC⟩:=Kd.wJ 0 dS.out (fU:Int) p33 q33;replace p33:=eq_true p33;replace q33:=eq_true q33;have n_:=aj.mk (Kd.dM (ok':=(fun k_=>some k_≠(.slice (some ⟨rE,0,none⟩) lX.length vW:Value).ownBlock)) dS.out (fun k_ hk=>hk.2));clear dS;have dS:=n_;clear n_;obtain ⟨ahD,ahE⟩:=Kd.wJ 0 dS.out (fU:Int) (of_decide_eq_true (by first|(with_reducible assumption)|assumption)) (of_decide_eq_true (by first|(with_reducible assumption)|assumption));have aao:=Kd.yK dS.out (fU:Int) (-1))|((with_reducible refine yt (t:=2) (p:=90) rfl ?_);(try (rw [oI w36];generalize hq_:World.drewN w36 _=w36;obtain ⟨gX,dS,HB⟩:=zA3 (Kd.acg hq_ gX.out) (Kd.acg hq_ dS.out) (ach hq_ HB.out);(try (have n_:=aj.mk (Kd.dM (ok':=(fun k_=>some k_≠(.slice (some ⟨rE,0,none⟩) lX.length vW:Value).ownBlock)) dS.out (fun k_ hk=>hk.2));clear dS;have dS:=n_;clear n_));(try (obtain ⟨ahD,ahE⟩:=Kd.wJ 0 dS.out (fU:Int) (of_decide_eq_true (by first|(with_reducible assumption)|assumption)) (of_decide_eq_true (by first|(with_reducible assumption)|assumption))));(try (have aao:=Kd.yK dS.out (fU:Int) (-1)))));refine wK (t:=2) (p:=90) (v := ?apD) (w1:=(w36.setCell ⟨xY,(fU:Int).toNat,none⟩ (.int .i64 (-1)))) ?hg ?ho ?hn ?hr ?_;(case ho=>rfl);(case hg=>rfl);(case hn=>rfl);(case hr=>first|(go_simp;done)|(go_simp;rfl));intro w38 hw;have hg:w36.grownBy w38 (some xY):=(by rw [hw];exact aao.2);have hp_:Kd.R (Kd.int .i64) 2 w38 w.heap.size (fun k_=>some k_≠(.slice (some ⟨rE,0,none⟩) lX.length vW:Value).ownBlock) (.slice (some ⟨xY,0,none⟩) lM.length yE) alg:=(by rw [hw,aoj.out];exact aao.1);clear aao;obtain ⟨gX,dS,HB⟩:=zA3 (Kd.sV (v:=(.slice (some ⟨xY,0,none⟩) lM.length yE)) (v1:=(.slice (some ⟨xY,0,none⟩) lM.length yE)) (ok:=(fun _=>True)) (by (with_reducible repeat (first|apply Kd.aK|apply Kd.aQ|apply Kd.aW));exact Kd.dM gX.out (fun _ hk=>⟨trivial,hk⟩)) hg (.inl rfl)) hp_ ((by rw [hw];exact tC (HB.out) ali.out:Below w.heap.size w w38));clear hg hw hp_)))
                    go_roundg k5
                    case measure=>have:=HJ1.out;have:=HK2.out;have:=HK3.out;have:=HK4.out;have:=HK5.out;omega
                    case rel=>exact ⟨(aiI),(alg),(wrap64 (afb - 1)),zT,H',⟨by have:=HJ1.out;have:=HK2.out;have:=HK3.out;have:=HK4.out;have:=HK5.out;omega⟩,⟨by (with_reducible repeat (first|apply Kd.aK|apply Kd.aQ|apply Kd.aW));exact Kd.dM gX.out (fun _ hk=>hk.2)⟩,⟨by (with_reducible repeat (first|apply Kd.aK|apply Kd.aQ|apply Kd.aW));exact dS.out⟩,⟨zB⟩⟩
                   ·rw [if_neg c32] at H
                    exact absurd H (by simp)
                  ·rw [if_neg c30] at H
                   exact absurd H (by simp)
                 ·rw [if_neg c29] at H
                  exact absurd H (by simp)
             ·rw [if_neg c21] at H
              have aan:=decide_eq_false c21
              clear c21
              simp only [Option.some.injEq,Prod.mk.injEq] at H
              obtain ⟨rfl,rfl⟩:=H
              go_wp2
              repeat (go_quiet (fail);try go_wp2)
              go_ret2
              exact ⟨_,zS,by (with_reducible repeat (first|apply Kd.aK|apply Kd.aQ|apply Kd.aW));exact Kd.dM gX.out (fun _ hk=>trivial),zB⟩
end Go.Proofs.YtpondkggmcmpfaaGreatDoor.QA
namespace Go.Proofs.YtpondkggmcmpfaaGreatDoor.QA
open Go.Proofs.YtpondkggmcmpfaaGreatDoor.T
open Go.RowKit Go.Proofs.YtpondkggmcmpfaaGreatDoorW.PrintWords Go.Proofs.YtpondkggmcmpfaaGreatDoorW.PrintLast Go.Proofs.YtpondkggmcmpfaaGreatDoorW.PrintMore
attribute [local go_sem] eG dX dY fF fG
set_option linter.unusedVariables false
set_option linter.unusedSimpArgs false
mutual
def bZ.j0:Nat→Int→Int→Int→Bool→Option ((List (iL)) × Int)
 | 0,_,_,_,_=>none
 | k+1,x0,x1,x2,x29=>if x29=true then (some (([]:List (iL)),6)) else (bZ.l0 k x0 x1 x2 ([]:List (iL)) x2 0)
def bZ.l0:Nat→Int→Int→Int→List (iL)→Int→Int→Option ((List (iL)) × Int)
 | 0,_,_,_,_,_,_=>none
 | k+1,x0,x1,x2,x8,x30,x31=>if x31 < x30 then ((bY.f k x0 x1 x2 x31).bind fun as1=>((aG.f k as1.2).bind fun aok=>(if aok.2=0 then (if x8.length < 4398046511104 then (bZ.l0 k x0 x1 x2 (x8 ++ [(⟨as1.1,aok.1⟩:iL)]) x30 (wrap64 (x31+1))) else (none)) else (some (([]:List (iL)),aok.2))))) else (some (x8,0))
end
def bZ.f (k:Nat) (a0 a1 a2:Int):Option ((List (iL)) × Int):=if a0 < 0 then (bZ.j0 k a0 a1 a2 true) else (if a0 > 2 then (bZ.j0 k a0 a1 a2 true) else ((iV.f a1).bind fun arf=>(if arf=true then ((iV.f a2).bind fun aol=>(bZ.j0 k a0 a1 a2 (!aol))) else (bZ.j0 k a0 a1 a2 true))))
set_option maxHeartbeats 8000000 in
set_option maxRecDepth 100000 in
theorem bZ.calls (k:Nat) (a0 a1 a2:Int) (r1:List (iL)) (r2:Int) (w:World) (h:bZ.f k a0 a1 a2=some (r1,r2)) :
  Calls Tryz.prog 93 #[.int .i64 a0,.int .i64 a1,.int .i64 a2] w fun e w'=>∃ v0_:Value,e = .returned (.tuple #[v0_,.int .i64 r2])∧Kd.S wP 138 w' w.heap.size (fun _=>True) v0_ r1∧Below w.heap.size w w':=by
 have as2:=Tryz.underlying138
 have HB:=aj.mk (Below.refl w.heap.size w)
 have H:=h
 clear h
 unfold bZ.f at H
 have HC4:=aj.mk H
 clear H
 go_enter Tryz.func93,Tryz.ntmps93
 go_upto_region 1 with (fail)
 go_cut [29] (fun v29 wc=>∃ (kq:Nat) (akk:Bool),v29 = .bool akk∧aj (bZ.j0 kq a0 a1 a2 akk=some (r1,r2))∧aj (kq≤k)∧aj (Below w.heap.size w wc))
 case first =>
  have H:=HC4.out
  clear HC4
  by_cases c5:a0 < 0
  ·rw [if_pos c5] at H
   have iR:=decide_eq_true c5
   clear c5
   (first|rw [iR]|(simp only [cZ,dB];rw [iR])|skip)
   have H':=aj.mk H
   clear H
   go_wp2
   go_meet
   case rel=>exact ⟨_,(true),zT,H',⟨by first|omega|exact Nat.le_refl _⟩,⟨zB⟩⟩
  ·rw [if_neg c5] at H
   have iR:=decide_eq_false c5
   clear c5
   (first|rw [iR]|(simp only [cZ,dB];rw [iR])|skip)
   by_cases c6:a0 > 2
   ·rw [if_pos c6] at H
    have iJ:=decide_eq_true c6
    clear c6
    have H':=aj.mk H
    clear H
    go_wp2
    go_meet
    case rel=>exact ⟨_,(true),zT,H',⟨by first|omega|exact Nat.le_refl _⟩,⟨zB⟩⟩
   ·rw [if_neg c6] at H
    have iJ:=decide_eq_false c6
    clear c6
    replace H:=zO H
    obtain ⟨arf,A7,H⟩:=H
    try dsimp only at H
    by_cases c8:arf=true
    ·subst c8
     rw [if_pos rfl] at H;try dsimp only at H
     replace H:=zO H
     obtain ⟨aol,A9,H⟩:=H
     try dsimp only at H
     have H':=aj.mk H
     clear H
     go_wp2_with (first|(go_at_call 113;(with_reducible refine (iV.calls a1 true _ A7.out).mono ?_);rintro e w' ⟨rfl,⟨nd,rfl⟩⟩)|(go_at_call 113;(with_reducible refine (iV.calls a2 aol _ A9.out).mono ?_);rintro e w' ⟨rfl,⟨nd,rfl⟩⟩))
     go_meet
     case rel=>exact ⟨_,(!aol),zT,H',⟨by first|omega|exact Nat.le_refl _⟩,⟨zB⟩⟩
    ·replace c8:=Bool.eq_false_iff.mpr c8
     subst c8
     rw [if_neg (show ¬ (false=true) by decide)] at H;try dsimp only at H
     have H':=aj.mk H
     clear H
     go_wp2_with (first|(go_at_call 113;(with_reducible refine (iV.calls a1 false _ A7.out).mono ?_);rintro e w' ⟨rfl,⟨nd,rfl⟩⟩))
     go_meet
     case rel=>exact ⟨_,(true),zT,H',⟨by first|omega|exact Nat.le_refl _⟩,⟨zB⟩⟩
 case rest =>
  clear HC4
  obtain ⟨kq,akk,rfl,HA,HJ3,HB⟩:=hcut
  cases kq with
  | zero=>exact absurd HA.out (by simp [bZ.j0])
  | succ kj3 =>
   have H:=HA.out
   clear HA
   simp only [bZ.j0] at H
   by_cases c10:akk=true
   ·subst c10
    rw [if_pos rfl] at H;try dsimp only at H
    simp only [Option.some.injEq,Prod.mk.injEq] at H
    obtain ⟨rfl,rfl⟩:=H
    go_wp2
    go_ret2
    exact ⟨_,zS,by first|exact Kd.oH _ _ _ _ _|exact Kd.pz _ _ _ _ _|exact Kd.nM _ _ _ _ _|exact Kd.pF _ _ _ _ _|exact Kd.kS _ _ _ _ _,zB⟩
   ·replace c10:=Bool.eq_false_iff.mpr c10
    subst c10
    rw [if_neg (show ¬ (false=true) by decide)] at H;try dsimp only at H
    have H':=aj.mk H
    clear H
    go_wp2
    go_loopg [8,31] kj3 (fun kq v8 v31 w'=>∃ (lK:List (iL)) (aa0:Int),v31 = .int .i64 aa0∧aj (bZ.l0 kq a0 a1 a2 lK a2 aa0=some (r1,r2))∧aj (kq≤kj3)∧aj (Kd.S wP 138 w' w.heap.size (fun _=>True) v8 lK)∧aj (Below w.heap.size w w'))
    case atStart=>exact ⟨(([]:List (iL))),(0),zT,H',⟨Nat.le_refl _⟩,⟨by first|exact Kd.oH _ _ _ _ _|exact Kd.pz _ _ _ _ _|exact Kd.nM _ _ _ _ _|exact Kd.pF _ _ _ _ _|exact Kd.kS _ _ _ _ _⟩,⟨zB⟩⟩
    case round =>
     clear H'
     obtain ⟨lK,aa0,rfl,HA,HK2,dS,HB⟩:=hrel
     cases gk with
     | zero=>exact absurd HA.out (by simp [bZ.l0])
     | succ k2 =>
      have H:=HA.out
      clear HA
      simp only [bZ.l0] at H
      by_cases c11:aa0 < a2
      ·rw [if_pos c11] at H
       have jf:=decide_eq_true c11
       clear c11
       replace H:=zO H
       obtain ⟨⟨aiJ,ad6⟩,A12,H⟩:=H
       try dsimp only at H
       replace H:=zO H
       obtain ⟨⟨agL,agM⟩,A13,H⟩:=H
       try dsimp only at H
       by_cases c14:agM=0
       ·rw [if_pos c14] at H
        have acO:(agM == 0)=true:=beq_iff_eq.mpr c14
        have aom:(agM != 0)=false:=bne_eq_false_iff_eq.mpr c14
        clear c14
        by_cases c15:lK.length < 4398046511104
        ·rw [if_pos c15] at H
         have an5:=aj.mk c15
         clear c15
         obtain ⟨au4,ahF⟩:∃ y_:List (iL),y_=(lK ++ [(⟨aiJ,agL⟩:iL)]):=⟨_,rfl⟩
         replace H:(bZ.l0 k2 a0 a1 a2 au4 a2 (wrap64 (aa0+1)))=some (r1,r2):=by first|(rw [ahF];with_reducible exact H)|(have H2_:=(Option.bind_some _ _).symm.trans H;rw [ahF];with_reducible exact H2_)|(have H2_:=(Option.bind_some _ _).symm.trans H;with_reducible exact H2_)|with_reducible exact H|(rw [ahF];exact H)|exact H
         have awW:=aj.mk ahF
         clear ahF
         have H':=aj.mk H
         clear H
         go_wp2_with (first|((with_reducible refine aA (f:=114) rfl ?_);refine aI (some 39) rfl rfl Tryz.func114 (by kernel_rfl) rfl #[.int .i64 a0,.int .i64 a1,.int .i64 a2,.int .i64 aa0] rfl zL ?_;(with_reducible refine (bY.calls k2 a0 a1 a2 aa0 aiJ ad6 _ A12.out).mono ?_);rintro e w16 ⟨ayh,rfl,ho0,hb⟩;refine ⟨_,rfl,?_⟩;obtain ⟨dS,uN,HB⟩:=zA3 (Kd.adG (by (with_reducible repeat (first|apply Kd.aaL|apply Kd.aaM|apply Kd.aci));exact dS.out) (Kd.jC ho0) hb) (Kd.gK ho0 (bM zB)) (ak zB hb);(try clear hb);(try clear ho0);obtain ⟨aon,aoo,ayi⟩:=Kd.gQ uN.out;subst ayi)|((with_reducible refine aA (f:=115) rfl ?_);refine aI (some 44) rfl rfl Tryz.func115 (by kernel_rfl) rfl #[.slice aon ad6.length aoo] rfl zL ?_;(with_reducible refine (aG.calls k2 _ _ ad6 agL agM _ ?iE ?iF A13.out).mono ?_);(case iE=>repeat (first|exact (Kd.dP uN.out).2.2|(with_reducible refine Kd.jd ?_ _)|(with_reducible refine Kd.jo ?_ _)|(with_reducible refine Kd.kC ?_)));(case iF=>exact (Kd.dP uN.out).2.1);rintro e w18 ⟨ayj,rfl,ho0,hb⟩;refine ⟨_,rfl,?_⟩;obtain ⟨dS,uN,akl,HB⟩:=zA4 (Kd.adG (by (with_reducible repeat (first|apply Kd.aaL|apply Kd.aaM|apply Kd.aci));exact dS.out) (Kd.jC ho0) hb) (Kd.iT (by (with_reducible repeat (first|apply Kd.aK|apply Kd.aQ|apply Kd.aW));exact uN.out) (Kd.jC ho0) hb) (Kd.gK (Kd.kG ho0 (Kd.lQ (by (with_reducible repeat (first|apply Kd.aK|apply Kd.aQ|apply Kd.aW));exact uN.out))) (bM zB)) (ak zB hb);(try clear hb);(try clear ho0);obtain ⟨alj,alk,alm⟩:=Kd.gQ akl.out;subst alm)|((with_reducible refine jq (b := .append) (xs := #[.tmp 50,.tmp 54]) rfl ?_);at_builtin;refine Kd.ap1 wP (w0:=w) w.heap.size rfl (.tmp 50) (.tmp 54) 39 138 (.agg #[(.int .i64 0),(.slice none 0 0)]) 32 rfl Tryz.underlying39 atz rfl (by decide) (by omega) u8 lK (⟨aiJ,agL⟩:iL) [.int .i64 aiJ,.slice alj agL.length alk] (fun k_=>some k_≠(.slice aon ad6.length aoo:Value).ownBlock) (fun k_=>some k_=(.slice alj agL.length alk:Value).ownBlock) rfl rfl ?aP (fun k_ hk_=>((Kd.dM (ok':=fun k_=>((fun k_=>some k_≠(.slice aon ad6.length aoo:Value).ownBlock)) k_∧some k_≠(u8:Value).ownBlock) (Kd.aky (akl.out) (Kd.air dS.out) (by decide)) (fun k_ hk=>⟨hk.1.2,hk.2⟩))).1 k_ hk_.symm) ?aF ?aO ?aB ?aS ?aL ?_;(case aP=>exact akF _ _ _ (⟨aiJ,agL⟩:iL) (Kd.dM (Kd.atv rfl (Kd.dM (ok':=fun k_=>((fun k_=>some k_≠(.slice aon ad6.length aoo:Value).ownBlock)) k_∧some k_≠(u8:Value).ownBlock) (Kd.aky (akl.out) (Kd.air dS.out) (by decide)) (fun k_ hk=>⟨hk.1.2,hk.2⟩))) (fun _ h_=>h_)));(case aB=>exact zB);(case aF=>exact (fun k_ hk=>Kd.fresh' (Kd.lQ (by (with_reducible repeat (first|apply Kd.aK|apply Kd.aQ|apply Kd.aW));exact uN.out)) k_ hk));(case aO=>exact (by (with_reducible repeat (first|apply Kd.aaL|apply Kd.aaM|apply Kd.aci));exact Kd.ape dS.out (fun k_ hk=>⟨hk.1.2,fun e_=>hk.2 e_⟩)));(case aS=>exact (bM zB));(case aL=>have:=an5.out;omega);intro aDH w20 ho hb hg hat;rw [← awW.out] at ho;obtain ⟨uN,HB,awX⟩:=zA3 (Kd.atu (by (with_reducible repeat (first|apply Kd.aK|apply Kd.aQ|apply Kd.aW));exact uN.out) (Kd.air (by (with_reducible repeat (first|apply Kd.aaL|apply Kd.aaM|apply Kd.aci));exact dS.out)) (by decide) hg) hb ho;clear ho hb hg hat))
         go_roundg k2
         case measure=>have:=HJ3.out;have:=HK2.out;omega
         case rel=>exact ⟨(au4),(wrap64 (aa0+1)),zT,H',⟨by have:=HJ3.out;have:=HK2.out;omega⟩,⟨by (with_reducible repeat (first|apply Kd.aaL|apply Kd.aaM|apply Kd.aci));exact Kd.ape awX.out (fun _ hk=>trivial)⟩,⟨zB⟩⟩
        ·rw [if_neg c15] at H
         exact absurd H (by simp)
       ·rw [if_neg c14] at H
        have acO:(agM == 0)=false:=beq_eq_false_iff_ne.mpr c14
        have aom:(agM != 0)=true:=bne_iff_ne.mpr c14
        simp only [Option.some.injEq,Prod.mk.injEq] at H
        obtain ⟨rfl,rfl⟩:=H
        go_wp2_with (first|((with_reducible refine aA (f:=114) rfl ?_);refine aI (some 39) rfl rfl Tryz.func114 (by kernel_rfl) rfl #[.int .i64 a0,.int .i64 a1,.int .i64 a2,.int .i64 aa0] rfl zL ?_;(with_reducible refine (bY.calls k2 a0 a1 a2 aa0 aiJ ad6 _ A12.out).mono ?_);rintro e w21 ⟨ayh,rfl,ho0,hb⟩;refine ⟨_,rfl,?_⟩;obtain ⟨dS,uN,HB⟩:=zA3 (Kd.adG (by (with_reducible repeat (first|apply Kd.aaL|apply Kd.aaM|apply Kd.aci));exact dS.out) (Kd.jC ho0) hb) (Kd.gK ho0 (bM zB)) (ak zB hb);(try clear hb);(try clear ho0);obtain ⟨agG,yE,aq5⟩:=Kd.gQ uN.out;subst aq5)|((with_reducible refine aA (f:=115) rfl ?_);refine aI (some 44) rfl rfl Tryz.func115 (by kernel_rfl) rfl #[.slice agG ad6.length yE] rfl zL ?_;(with_reducible refine (aG.calls k2 _ _ ad6 agL agM _ ?iE ?iF A13.out).mono ?_);(case iE=>repeat (first|exact (Kd.dP uN.out).2.2|(with_reducible refine Kd.jd ?_ _)|(with_reducible refine Kd.jo ?_ _)|(with_reducible refine Kd.kC ?_)));(case iF=>exact (Kd.dP uN.out).2.1);rintro e w23 ⟨ayj,rfl,ho0,hb⟩;refine ⟨_,rfl,?_⟩;obtain ⟨dS,uN,akl,HB⟩:=zA4 (Kd.adG (by (with_reducible repeat (first|apply Kd.aaL|apply Kd.aaM|apply Kd.aci));exact dS.out) (Kd.jC ho0) hb) (Kd.iT (by (with_reducible repeat (first|apply Kd.aK|apply Kd.aQ|apply Kd.aW));exact uN.out) (Kd.jC ho0) hb) (Kd.gK (Kd.kG ho0 (Kd.lQ (by (with_reducible repeat (first|apply Kd.aK|apply Kd.aQ|apply Kd.aW));exact uN.out))) (bM zB)) (ak zB hb);(try clear hb);(try clear ho0)))
        go_ret2
        exact ⟨_,zS,by first|exact Kd.oH _ _ _ _ _|exact Kd.pz _ _ _ _ _|exact Kd.nM _ _ _ _ _|exact Kd.pF _ _ _ _ _|exact Kd.kS _ _ _ _ _,zB⟩
      ·rw [if_neg c11] at H
       have jf:=decide_eq_false c11
       clear c11
       simp only [Option.some.injEq,Prod.mk.injEq] at H
       obtain ⟨rfl,rfl⟩:=H
       go_wp2
       go_ret2
       exact ⟨_,zS,by (with_reducible repeat (first|apply Kd.aaL|apply Kd.aaM|apply Kd.aci));exact dS.out,zB⟩
end Go.Proofs.YtpondkggmcmpfaaGreatDoor.QA
namespace Go.Proofs.YtpondkggmcmpfaaGreatDoor.QA
open Go.Proofs.YtpondkggmcmpfaaGreatDoor.T
open Go.RowKit Go.Proofs.YtpondkggmcmpfaaGreatDoorW.PrintWords Go.Proofs.YtpondkggmcmpfaaGreatDoorW.PrintLast Go.Proofs.YtpondkggmcmpfaaGreatDoorW.PrintMore
attribute [local go_sem] eG dX dY fF fG
set_option linter.unusedVariables false
set_option linter.unusedSimpArgs false
mutual
def dW.j0:Nat→Int→Option (Int)
 | 0,_=>none
 | k+1,x0=>(dZ.f k x0 762123384786).bind fun abD=>(dW.l0 k abD (wrap64 (x0 - (wrap64 (abD*762123384786)))) 1099511627776 0 1099511627776 1)
def dW.l0:Nat→Int→Int→Int→Int→Int→Int→Option (Int)
 | 0,_,_,_,_,_,_=>none
 | k+1,x3,x4,x5,x6,x7,x8=>if x8≤16 then ((aZ.f k x7 x4 (wrap64 (x8*1099511627776))).bind fun acj=>(if (Int.tmod x8 2)=1 then (dW.l0 k x3 x4 x5 (wrap64 (x6+acj)) acj (wrap64 (x8+1))) else (dW.l0 k x3 x4 (wrap64 (x5+acj)) x6 acj (wrap64 (x8+1))))) else ((aT.f k (wrap64 (x5 - x6)) x3).bind fun arh=>(some arh))
end
def dW.f (k:Nat) (a0:Int):Option (Int):=if a0 < 0 then (dW.j0 k 0) else (dW.j0 k a0)
set_option maxHeartbeats 8000000 in
set_option maxRecDepth 100000 in
theorem dW.calls (k:Nat) (a0 r:Int) (w:World) (h:dW.f k a0=some r) :
  Calls Tryz.prog 145 #[.int .i64 a0] w fun e w'=>e = .returned (.int .i64 r)∧Below w.heap.size w w':=by
 have HB:=aj.mk (Below.refl w.heap.size w)
 have H:=h
 clear h
 unfold dW.f at H
 have HC2:=aj.mk H
 clear H
 go_enter Tryz.func145,Tryz.ntmps145
 go_upto_if 10 with (fail)
 go_cut [0] (fun v0 wc=>∃ (kq:Nat) (ade:Int),v0 = .int .i64 ade∧aj (dW.j0 kq ade=some r)∧aj (kq≤k)∧aj (Below w.heap.size w wc))
 case first =>
  have H:=HC2.out
  clear HC2
  by_cases c3:a0 < 0
  ·rw [if_pos c3] at H
   have gq:=decide_eq_true c3
   clear c3
   (first|rw [gq]|(simp only [cZ,dB];rw [gq])|skip)
   have H':=aj.mk H
   clear H
   go_wp2
   go_meet
   case rel=>exact ⟨_,(0),zT,H',⟨by first|omega|exact Nat.le_refl _⟩,⟨zB⟩⟩
  ·rw [if_neg c3] at H
   have gq:=decide_eq_false c3
   clear c3
   (first|rw [gq]|(simp only [cZ,dB];rw [gq])|skip)
   have H':=aj.mk H
   clear H
   go_wp2
   go_meet
   case rel=>exact ⟨_,(a0),zT,H',⟨by first|omega|exact Nat.le_refl _⟩,⟨zB⟩⟩
 case rest =>
  clear HC2
  obtain ⟨kq,ade,rfl,HA,HJ1,HB⟩:=hcut
  cases kq with
  | zero=>exact absurd HA.out (by simp [dW.j0])
  | succ kj1 =>
   have H:=HA.out
   clear HA
   simp only [dW.j0] at H
   replace H:=zO H
   obtain ⟨abD,A4,H⟩:=H
   try dsimp only at H
   have H':=aj.mk H
   clear H
   go_wp2_with (first|((with_reducible refine aA (f:=144) rfl ?_);refine aI (some 12) rfl rfl Tryz.func144 (by kernel_rfl) rfl #[.int .i64 ade,.int .i64 762123384786] rfl zL ?_;(with_reducible refine (dZ.calls kj1 ade 762123384786 abD _ A4.out).mono ?_);rintro e w5 ⟨rfl,hb⟩;refine ⟨_,rfl,?_⟩;replace HB:=aj.mk (ak zB hb);(try clear hb)))
   go_loopg [5,6,7,8] kj1 (fun kq v5 v6 v7 v8 w'=>∃ (mP:Int) (yF:Int) (fM:Int) (lK:Int),v5 = .int .i64 mP∧v6 = .int .i64 yF∧v7 = .int .i64 fM∧v8 = .int .i64 lK∧aj (dW.l0 kq abD (wrap64 (ade - (wrap64 (abD*762123384786)))) mP yF fM lK=some r)∧aj (kq≤kj1)∧aj (Below w.heap.size w w'))
   case atStart=>exact ⟨(1099511627776),(0),(1099511627776),(1),zT,zT,zT,zT,H',⟨Nat.le_refl _⟩,⟨zB⟩⟩
   case round =>
    clear H'
    obtain ⟨mP,yF,fM,lK,rfl,rfl,rfl,rfl,HA,HK2,HB⟩:=hrel
    cases gk with
    | zero=>exact absurd HA.out (by simp [dW.l0])
    | succ k2 =>
     have H:=HA.out
     clear HA
     simp only [dW.l0] at H
     by_cases c6:lK≤16
     ·rw [if_pos c6] at H
      have iJ:=decide_eq_true c6
      clear c6
      replace H:=zO H
      obtain ⟨acj,A7,H⟩:=H
      try dsimp only at H
      by_cases c8:(Int.tmod lK 2)=1
      ·rw [if_pos c8] at H
       have xH:((Int.tmod lK 2) == 1)=true:=beq_iff_eq.mpr c8
       have adK:((Int.tmod lK 2) != 1)=false:=bne_eq_false_iff_eq.mpr c8
       clear c8
       have H':=aj.mk H
       clear H
       go_wp2_with (first|((with_reducible refine aA (f:=118) rfl ?_);refine aI (some 25) rfl rfl Tryz.func118 (by kernel_rfl) rfl #[.int .i64 fM,.int .i64 (wrap64 (ade - (wrap64 (abD*762123384786)))),.int .i64 (wrap64 (lK*1099511627776))] rfl zL ?_;(with_reducible refine (aZ.calls k2 fM (wrap64 (ade - (wrap64 (abD*762123384786)))) (wrap64 (lK*1099511627776)) acj _ A7.out).mono ?_);rintro e w9 ⟨rfl,hb⟩;refine ⟨_,rfl,?_⟩;replace HB:=aj.mk (ak zB hb);(try clear hb)))
       go_roundg k2
       case measure=>have:=HJ1.out;have:=HK2.out;omega
       case rel=>exact ⟨(mP),(wrap64 (yF+acj)),(acj),(wrap64 (lK+1)),zT,zT,zT,zT,H',⟨by have:=HJ1.out;have:=HK2.out;omega⟩,⟨zB⟩⟩
      ·rw [if_neg c8] at H
       have xH:((Int.tmod lK 2) == 1)=false:=beq_eq_false_iff_ne.mpr c8
       have adK:((Int.tmod lK 2) != 1)=true:=bne_iff_ne.mpr c8
       have H':=aj.mk H
       clear H
       go_wp2_with (first|((with_reducible refine aA (f:=118) rfl ?_);refine aI (some 25) rfl rfl Tryz.func118 (by kernel_rfl) rfl #[.int .i64 fM,.int .i64 (wrap64 (ade - (wrap64 (abD*762123384786)))),.int .i64 (wrap64 (lK*1099511627776))] rfl zL ?_;(with_reducible refine (aZ.calls k2 fM (wrap64 (ade - (wrap64 (abD*762123384786)))) (wrap64 (lK*1099511627776)) acj _ A7.out).mono ?_);rintro e w10 ⟨rfl,hb⟩;refine ⟨_,rfl,?_⟩;replace HB:=aj.mk (ak zB hb);(try clear hb)))
       go_roundg k2
       case measure=>have:=HJ1.out;have:=HK2.out;omega
       case rel=>exact ⟨(wrap64 (mP+acj)),(yF),(acj),(wrap64 (lK+1)),zT,zT,zT,zT,H',⟨by have:=HJ1.out;have:=HK2.out;omega⟩,⟨zB⟩⟩
     ·rw [if_neg c6] at H
      have iJ:=decide_eq_false c6
      clear c6
      replace H:=zO H
      obtain ⟨arh,A11,H⟩:=H
      try dsimp only at H
      obtain rfl:=Option.some.inj H
      go_wp2_with (first|((with_reducible refine aA (f:=101) rfl ?_);refine aI (some 39) rfl rfl Tryz.func101 (by kernel_rfl) rfl #[.int .i64 (wrap64 (mP - yF)),.int .i64 abD] rfl zL ?_;(with_reducible refine (aT.calls k2 (wrap64 (mP - yF)) abD arh _ A11.out).mono ?_);rintro e w12 ⟨rfl,hb⟩;refine ⟨_,rfl,?_⟩;replace HB:=aj.mk (ak zB hb);(try clear hb)))
      go_ret
      exact ⟨zS,zB⟩
def mW.f (k:Nat) (a0 a1:Int):Option (Int):=if a1 < 1 then (some 9223372036854775807) else (if a1 > 4194304 then (some 9223372036854775807) else (if a0 < (-16384) then (some 9223372036854775807) else (if a0 > 16384 then (some 9223372036854775807) else ((aZ.f k (wrap64 ((wrap64 (a0*a0))*2147483648)) 1099511627776 (wrap64 (a1*a1))).bind fun ari=>(some ari)))))
set_option maxHeartbeats 8000000 in
set_option maxRecDepth 100000 in
theorem mW.calls (k:Nat) (a0 a1 r:Int) (w:World) (h:mW.f k a0 a1=some r) :
  Calls Tryz.prog 146 #[.int .i64 a0,.int .i64 a1] w fun e w'=>e = .returned (.int .i64 r)∧Below w.heap.size w w':=by
 have HB:=aj.mk (Below.refl w.heap.size w)
 have H:=h
 clear h
 unfold mW.f at H
 by_cases c3:a1 < 1
 ·rw [if_pos c3] at H
  have gq:=decide_eq_true c3
  clear c3
  obtain rfl:=Option.some.inj H
  go_enter Tryz.func146,Tryz.ntmps146
  go_wp2
  go_ret
  exact ⟨zS,zB⟩
 ·rw [if_neg c3] at H
  have gq:=decide_eq_false c3
  clear c3
  by_cases c4:a1 > 4194304
  ·rw [if_pos c4] at H
   have gI:=decide_eq_true c4
   clear c4
   obtain rfl:=Option.some.inj H
   go_enter Tryz.func146,Tryz.ntmps146
   go_wp2
   go_ret
   exact ⟨zS,zB⟩
  ·rw [if_neg c4] at H
   have gI:=decide_eq_false c4
   clear c4
   by_cases c5:a0 < (-16384)
   ·rw [if_pos c5] at H
    have iR:=decide_eq_true c5
    clear c5
    obtain rfl:=Option.some.inj H
    go_enter Tryz.func146,Tryz.ntmps146
    go_wp2
    go_ret
    exact ⟨zS,zB⟩
   ·rw [if_neg c5] at H
    have iR:=decide_eq_false c5
    clear c5
    by_cases c6:a0 > 16384
    ·rw [if_pos c6] at H
     have iJ:=decide_eq_true c6
     clear c6
     obtain rfl:=Option.some.inj H
     go_enter Tryz.func146,Tryz.ntmps146
     go_wp2
     go_ret
     exact ⟨zS,zB⟩
    ·rw [if_neg c6] at H
     have iJ:=decide_eq_false c6
     clear c6
     replace H:=zO H
     obtain ⟨ari,A7,H⟩:=H
     try dsimp only at H
     obtain rfl:=Option.some.inj H
     go_enter Tryz.func146,Tryz.ntmps146
     go_wp2_with (first|((with_reducible refine aA (f:=118) rfl ?_);refine aI (some 26) rfl rfl Tryz.func118 (by kernel_rfl) rfl #[.int .i64 (wrap64 ((wrap64 (a0*a0))*2147483648)),.int .i64 1099511627776,.int .i64 (wrap64 (a1*a1))] rfl zL ?_;(with_reducible refine (aZ.calls k (wrap64 ((wrap64 (a0*a0))*2147483648)) 1099511627776 (wrap64 (a1*a1)) ari _ A7.out).mono ?_);rintro e w8 ⟨rfl,hb⟩;refine ⟨_,rfl,?_⟩;replace HB:=aj.mk (ak zB hb);(try clear hb)))
     go_ret
     exact ⟨zS,zB⟩
def mX.f (k:Nat) (a0 a1:Int):Option (Int):=(mW.f k a0 a1).bind fun aln=>((dW.f k aln).bind fun alo=>((aT.f k alo 10).bind fun arj=>(some arj)))
set_option maxHeartbeats 8000000 in
set_option maxRecDepth 100000 in
theorem mX.calls (k:Nat) (a0 a1 r:Int) (w:World) (h:mX.f k a0 a1=some r) :
  Calls Tryz.prog 116 #[.int .i64 a0,.int .i64 a1] w fun e w'=>e = .returned (.int .i64 r)∧Below w.heap.size w w':=by
 have HB:=aj.mk (Below.refl w.heap.size w)
 have H:=h
 clear h
 unfold mX.f at H
 replace H:=zO H
 obtain ⟨aln,A3,H⟩:=H
 try dsimp only at H
 replace H:=zO H
 obtain ⟨alo,A4,H⟩:=H
 try dsimp only at H
 replace H:=zO H
 obtain ⟨arj,A5,H⟩:=H
 try dsimp only at H
 obtain rfl:=Option.some.inj H
 go_enter Tryz.func116,Tryz.ntmps116
 go_wp2_with (first|((with_reducible refine aA (f:=146) rfl ?_);refine aI (some 7) rfl rfl Tryz.func146 (by kernel_rfl) rfl #[.int .i64 a0,.int .i64 a1] rfl zL ?_;(with_reducible refine (mW.calls k a0 a1 aln _ A3.out).mono ?_);rintro e w6 ⟨rfl,hb⟩;refine ⟨_,rfl,?_⟩;replace HB:=aj.mk (ak zB hb);(try clear hb))|((with_reducible refine aA (f:=145) rfl ?_);refine aI (some 8) rfl rfl Tryz.func145 (by kernel_rfl) rfl #[.int .i64 aln] rfl zL ?_;(with_reducible refine (dW.calls k aln alo _ A4.out).mono ?_);rintro e w7 ⟨rfl,hb⟩;refine ⟨_,rfl,?_⟩;replace HB:=aj.mk (ak zB hb);(try clear hb))|((with_reducible refine aA (f:=101) rfl ?_);refine aI (some 9) rfl rfl Tryz.func101 (by kernel_rfl) rfl #[.int .i64 alo,.int .i64 10] rfl zL ?_;(with_reducible refine (aT.calls k alo 10 arj _ A5.out).mono ?_);rintro e w8 ⟨rfl,hb⟩;refine ⟨_,rfl,?_⟩;replace HB:=aj.mk (ak zB hb);(try clear hb)))
 go_ret
 exact ⟨zS,zB⟩
end Go.Proofs.YtpondkggmcmpfaaGreatDoor.QA
namespace Go.Proofs.YtpondkggmcmpfaaGreatDoor.QA
open Go.Proofs.YtpondkggmcmpfaaGreatDoor.T
open Go.RowKit Go.Proofs.YtpondkggmcmpfaaGreatDoorW.PrintWords Go.Proofs.YtpondkggmcmpfaaGreatDoorW.PrintLast Go.Proofs.YtpondkggmcmpfaaGreatDoorW.PrintMore
attribute [local go_sem] eG dX dY fF fG
set_option linter.unusedVariables false
set_option linter.unusedSimpArgs false
mutual
def bn.j0:Nat→Int→Bool→Option (List Int × Int)
 | 0,_,_=>none
 | k+1,x0,x12=>if x12=true then (some (([]:List Int),7)) else (bn.l0 k x0 0)
def bn.l0:Nat→Int→Int→Option (List Int × Int)
 | 0,_,_=>none
 | k+1,x0,x4=>if (wrap64 (x4*65536)) < (wrap64 (3*x0)) then (bn.l0 k x0 (wrap64 (x4+1))) else (bn.l1 k x0 x4 ([]:List Int) (wrap64 (-x4)))
def bn.l1:Nat→Int→Int→List Int→Int→Option (List Int × Int)
 | 0,_,_,_,_=>none
 | k+1,x0,x4,x5,x6=>if x6≤x4 then ((mX.f k x6 x0).bind fun aiK=>(if x5.length < 17592186044416 then (bn.l1 k x0 x4 (x5 ++ [aiK]) (wrap64 (x6+1))) else (none))) else (some (x5,0))
end
def bn.f (k:Nat) (a0:Int):Option (List Int × Int):=if a0 < 1 then (bn.j0 k a0 true) else (bn.j0 k a0 (decide (a0 > 4194304)))
set_option maxHeartbeats 8000000 in
set_option maxRecDepth 100000 in
theorem bn.calls (k:Nat) (a0:Int) (r1:List Int) (r2:Int) (w:World) (h:bn.f k a0=some (r1,r2)) :
  Calls Tryz.prog 94 #[.int .i64 a0] w fun e w'=>∃ v0_:Value,e = .returned (.tuple #[v0_,.int .i64 r2])∧Kd.R (Kd.int .i64) 2 w' w.heap.size (fun _=>True) v0_ r1∧Below w.heap.size w w':=by
 have HB:=aj.mk (Below.refl w.heap.size w)
 have H:=h
 clear h
 unfold bn.f at H
 have HC2:=aj.mk H
 clear H
 go_enter Tryz.func94,Tryz.ntmps94
 go_upto_region 1 with (fail)
 go_cut [12] (fun v12 wc=>∃ (kq:Nat) (abQ:Bool),v12 = .bool abQ∧aj (bn.j0 kq a0 abQ=some (r1,r2))∧aj (kq≤k)∧aj (Below w.heap.size w wc))
 case first =>
  have H:=HC2.out
  clear HC2
  by_cases c3:a0 < 1
  ·rw [if_pos c3] at H
   have gq:=decide_eq_true c3
   clear c3
   (first|rw [gq]|(simp only [cZ,dB];rw [gq])|skip)
   have H':=aj.mk H
   clear H
   go_wp2
   go_meet
   case rel=>exact ⟨_,(true),zT,H',⟨by first|omega|exact Nat.le_refl _⟩,⟨zB⟩⟩
  ·rw [if_neg c3] at H
   have gq:=decide_eq_false c3
   clear c3
   (first|rw [gq]|(simp only [cZ,dB];rw [gq])|skip)
   have H':=aj.mk H
   clear H
   go_wp2
   go_meet
   case rel=>exact ⟨_,(decide (a0 > 4194304)),zT,H',⟨by first|omega|exact Nat.le_refl _⟩,⟨zB⟩⟩
 case rest =>
  clear HC2
  obtain ⟨kq,abQ,rfl,HA,HJ1,HB⟩:=hcut
  cases kq with
  | zero=>exact absurd HA.out (by simp [bn.j0])
  | succ kj1 =>
   have H:=HA.out
   clear HA
   simp only [bn.j0] at H
   by_cases c4:abQ=true
   ·subst c4
    rw [if_pos rfl] at H;try dsimp only at H
    simp only [Option.some.injEq,Prod.mk.injEq] at H
    obtain ⟨rfl,rfl⟩:=H
    go_wp2
    go_ret2
    exact ⟨_,zS,by first|exact Kd.kS _ _ _ _ _|exact Kd.pz _ _ _ _ _|exact Kd.nM _ _ _ _ _|exact Kd.pF _ _ _ _ _|exact Kd.oH _ _ _ _ _,zB⟩
   ·replace c4:=Bool.eq_false_iff.mpr c4
    subst c4
    rw [if_neg (show ¬ (false=true) by decide)] at H;try dsimp only at H
    have H':=aj.mk H
    clear H
    go_wp2
    go_loopg [4] kj1 (fun kq v4 w'=>∃ (wU:Int),v4 = .int .i64 wU∧aj (bn.l0 kq a0 wU=some (r1,r2))∧aj (kq≤kj1)∧aj (Below w.heap.size w w'))
    case atStart=>exact ⟨(0),zT,H',⟨Nat.le_refl _⟩,⟨zB⟩⟩
    case round =>
     clear H'
     obtain ⟨wU,rfl,HA,HK2,HB⟩:=hrel
     cases gk with
     | zero=>exact absurd HA.out (by simp [bn.l0])
     | succ k2 =>
      have H:=HA.out
      clear HA
      simp only [bn.l0] at H
      by_cases c5:(wrap64 (wU*65536)) < (wrap64 (3*a0))
      ·rw [if_pos c5] at H
       have iR:=decide_eq_true c5
       clear c5
       have H':=aj.mk H
       clear H
       go_wp2
       go_roundg k2
       case measure=>have:=HJ1.out;have:=HK2.out;omega
       case rel=>exact ⟨(wrap64 (wU+1)),zT,H',⟨by have:=HJ1.out;have:=HK2.out;omega⟩,⟨zB⟩⟩
      ·rw [if_neg c5] at H
       have iR:=decide_eq_false c5
       clear c5
       have H':=aj.mk H
       clear H
       go_wp2
       try simp only [Act.put,List.setIfInBounds_toArray,List.set_cons_succ,List.set_cons_zero]
       go_loopg [5,6] k2 (fun kq v5 v6 w'=>∃ (aiL:List Int) (afe:Int),v6 = .int .i64 afe∧aj (bn.l1 kq a0 wU aiL afe=some (r1,r2))∧aj (kq≤k2)∧aj (Kd.R (Kd.int .i64) 2 w' w.heap.size (fun _=>True) v5 aiL)∧aj (Below w.heap.size w w'))
       case atStart=>exact ⟨(([]:List Int)),(wrap64 (-wU)),zT,H',⟨Nat.le_refl _⟩,⟨by first|exact Kd.kS _ _ _ _ _|exact Kd.pz _ _ _ _ _|exact Kd.nM _ _ _ _ _|exact Kd.pF _ _ _ _ _|exact Kd.oH _ _ _ _ _⟩,⟨zB⟩⟩
       case round =>
        clear H'
        obtain ⟨aiL,afe,rfl,HA,HK3,xZ,HB⟩:=hrel
        cases gk with
        | zero=>exact absurd HA.out (by simp [bn.l1])
        | succ k3 =>
         have H:=HA.out
         clear HA
         simp only [bn.l1] at H
         by_cases c6:afe≤wU
         ·rw [if_pos c6] at H
          have iJ:=decide_eq_true c6
          clear c6
          replace H:=zO H
          obtain ⟨aiK,A7,H⟩:=H
          try dsimp only at H
          by_cases c8:aiL.length < 17592186044416
          ·rw [if_pos c8] at H
           have ayk:=aj.mk c8
           clear c8
           obtain ⟨au5,ahG⟩:∃ y_:List Int,y_=(aiL ++ [aiK]):=⟨_,rfl⟩
           replace H:(bn.l1 k3 a0 wU au5 (wrap64 (afe+1)))=some (r1,r2):=by first|(rw [ahG];with_reducible exact H)|(have H2_:=(Option.bind_some _ _).symm.trans H;rw [ahG];with_reducible exact H2_)|(have H2_:=(Option.bind_some _ _).symm.trans H;with_reducible exact H2_)|with_reducible exact H|(rw [ahG];exact H)|exact H
           have awY:=aj.mk ahG
           clear ahG
           have H':=aj.mk H
           clear H
           go_wp2_with (first|((with_reducible refine aA (f:=116) rfl ?_);refine aI (some 30) rfl rfl Tryz.func116 (by kernel_rfl) rfl #[.int .i64 afe,.int .i64 a0] rfl zL ?_;(with_reducible refine (mX.calls k3 afe a0 aiK _ A7.out).mono ?_);rintro e w9 ⟨rfl,hb⟩;refine ⟨_,rfl,?_⟩;obtain ⟨xZ,HB⟩:=zA2 (Kd.ji (by (with_reducible repeat (first|apply Kd.aK|apply Kd.aQ|apply Kd.aW));exact xZ.out) hb) (ak zB hb);(try clear hb))|((with_reducible refine jq (b := .append) (xs := #[.tmp 27,.tmp 31]) rfl ?_);at_builtin;refine Kd.kV (Kd.int .i64) (w0:=w) w.heap.size rfl (.tmp 27) (.tmp 31) 44 2 (.int .i64 0) 8 rfl Tryz.underlying44 wY rfl (by decide) (by omega) u5 aiL aiK [.int .i64 aiK] (fun _=>True) (fun _=>False) rfl rfl ?aP (fun _ hk=>hk.elim) ?aF ?aO ?aB ?aS ?aL ?_;(case aP=>exact rfl);(case aB=>exact zB);(case aF=>exact (fun _ _=>trivial));(case aO=>exact (by (with_reducible repeat (first|apply Kd.aK|apply Kd.aQ|apply Kd.aW));exact xZ.out));(case aS=>exact (bM zB));(case aL=>have:=ayk.out;omega);intro aDI w10 ho hb hg hat;rw [← awY.out] at ho;obtain ⟨HB,awZ⟩:=zA2 hb ho;clear ho hb hg hat))
           go_roundg k3
           case measure=>have:=HJ1.out;have:=HK2.out;have:=HK3.out;omega
           case rel=>exact ⟨(au5),(wrap64 (afe+1)),zT,H',⟨by have:=HJ1.out;have:=HK2.out;have:=HK3.out;omega⟩,⟨by (with_reducible repeat (first|apply Kd.aK|apply Kd.aQ|apply Kd.aW));exact awZ.out⟩,⟨zB⟩⟩
          ·rw [if_neg c8] at H
           exact absurd H (by simp)
         ·rw [if_neg c6] at H
          have iJ:=decide_eq_false c6
          clear c6
          simp only [Option.some.injEq,Prod.mk.injEq] at H
          obtain ⟨rfl,rfl⟩:=H
          go_wp2
          go_ret2
          exact ⟨_,zS,by (with_reducible repeat (first|apply Kd.aK|apply Kd.aQ|apply Kd.aW));exact xZ.out,zB⟩
def iI.l0:Nat→Int→List Int→Int→Int→Option (Int)
 | 0,_,_,_,_=>none
 | k+1,x3,x6,x7,x8=>if x8 < x7 then (if 0≤x8 then (if x8 < (x6.length:Int) then ((iU.f (rd x6 x8)).bind fun alp=>((iw.f k x3 alp).bind fun aop=>(iI.l0 k aop x6 x7 (wrap64 (x8+1))))) else (none)) else (none)) else (some x3)
def iI.f (k:Nat) (l0:List Int):Option (Int):=iI.l0 k 0 l0 (l0.length:Int) 0
set_option maxHeartbeats 8000000 in
set_option maxRecDepth 100000 in
theorem iI.calls (k:Nat) (A0:Option Addr) (c0:Nat) (l0:List Int) (r:Int) (w:World) (hr0:Kd.C (Kd.int .i64) w A0 l0.length l0) (hc0:l0.length≤c0) (h:iI.f k l0=some r) :
  Calls Tryz.prog 117 #[.slice A0 l0.length c0] w fun e w'=>e = .returned (.int .i64 r)∧dH w w':=by
 have HR0:=aj.mk hr0
 have HC0:=aj.mk hc0
 clear hr0 hc0
 have H:=h
 clear h
 unfold iI.f at H
 have H':=aj.mk H
 clear H
 go_enter Tryz.func117,Tryz.ntmps117
 go_wp2
 go_loopg [3,8] k (fun kq v3 v8 w'=>∃ (oK:Int) (bC:Int),v3 = .int .i64 oK∧v8 = .int .i64 bC∧aj (iI.l0 kq oK l0 (l0.length:Int) bC=some r)∧aj (kq≤k)∧dH w w')
 case atStart=>exact ⟨(0),(0),zT,zT,H',⟨Nat.le_refl _⟩,zW⟩
 case round =>
  clear H'
  obtain ⟨oK,bC,rfl,rfl,HA,HK1,⟨m1,rfl⟩⟩:=hrel
  cases gk with
  | zero=>exact absurd HA.out (by simp [iI.l0])
  | succ k1 =>
   have H:=HA.out
   clear HA
   simp only [iI.l0] at H
   by_cases c2:bC < (l0.length:Int)
   ·rw [if_pos c2] at H
    have lS:=decide_eq_true c2
    clear c2
    by_cases c3:0≤bC
    ·rw [if_pos c3] at H
     have gq:=decide_eq_true c3
     clear c3
     by_cases c4:bC < (l0.length:Int)
     ·rw [if_pos c4] at H
      have gI:=decide_eq_true c4
      clear c4
      replace H:=zO H
      obtain ⟨alp,A5,H⟩:=H
      try dsimp only at H
      replace H:=zO H
      obtain ⟨aop,A6,H⟩:=H
      try dsimp only at H
      have H':=aj.mk H
      clear H
      have ark:0≤(bC:Int):=of_decide_eq_true (by first|(with_reducible assumption)|assumption)
      have arl:bC < (l0.length:Int):=of_decide_eq_true (by first|(with_reducible assumption)|assumption)
      obtain ⟨aCB,ayl,aAd⟩:=Kd.jV HR0.out bC ark arl
      cases ayl
      replace ark:=eq_true ark
      replace arl:=eq_true arl
      go_wp2_with (first|((with_reducible refine aA (f:=142) rfl ?_);refine aI (some 14) rfl rfl Tryz.func142 (by kernel_rfl) rfl #[.int .i64 (rd l0 bC)] rfl zL ?_;(with_reducible refine (iU.calls (rd l0 bC) alp _ A5.out).mono ?_);rintro e w' ⟨rfl,⟨nd,rfl⟩⟩;refine ⟨_,rfl,?_⟩)|((with_reducible refine aA (f:=147) rfl ?_);refine aI (some 15) rfl rfl Tryz.func147 (by kernel_rfl) rfl #[.int .i64 oK,.int .i64 alp] rfl zL ?_;(with_reducible refine (iw.calls k1 oK alp aop _ A6.out).mono ?_);rintro e w' ⟨rfl,⟨nd,rfl⟩⟩;refine ⟨_,rfl,?_⟩))
      go_roundg k1
      case measure=>have:=HK1.out;omega
      case rel=>exact ⟨(aop),(wrap64 (bC+1)),zT,zT,H',⟨by have:=HK1.out;omega⟩,zW⟩
     ·rw [if_neg c4] at H
      exact absurd H (by simp)
    ·rw [if_neg c3] at H
     exact absurd H (by simp)
   ·rw [if_neg c2] at H
    have lS:=decide_eq_false c2
    clear c2
    obtain rfl:=Option.some.inj H
    go_wp2
    go_ret
    exact ⟨zT,zW⟩
end Go.Proofs.YtpondkggmcmpfaaGreatDoor.QA
namespace Go.Proofs.YtpondkggmcmpfaaGreatDoor.QA
open Go.Proofs.YtpondkggmcmpfaaGreatDoor.T
open Go.RowKit Go.Proofs.YtpondkggmcmpfaaGreatDoorW.PrintWords Go.Proofs.YtpondkggmcmpfaaGreatDoorW.PrintLast Go.Proofs.YtpondkggmcmpfaaGreatDoorW.PrintMore
attribute [local go_sem] eG dX dY fF fG
set_option linter.unusedVariables false
set_option linter.unusedSimpArgs false
mutual
def bP.j0:Nat→List Int→Int→Bool→Option (List Int × Int)
 | 0,_,_,_=>none
 | k+1,x0,x4,x26=>if x26=true then (some (([]:List Int),7)) else (bP.l0 k x4 ([]:List Int) x0 (x0.length:Int) 0)
def bP.l0:Nat→Int→List Int→List Int→Int→Int→Option (List Int × Int)
 | 0,_,_,_,_,_=>none
 | k+1,x4,x5,x27,x28,x29=>if x29 < x28 then (if 0≤x29 then (if x29 < (x27.length:Int) then ((aZ.f k (rd x27 x29) 1073741824 x4).bind fun aiM=>(if x5.length < 17592186044416 then (bP.l0 k x4 (x5 ++ [aiM]) x27 x28 (wrap64 (x29+1))) else (none))) else (none)) else (none)) else (some (x5,0))
end
def bP.f (k:Nat) (l0:List Int):Option (List Int × Int):=(iI.f k l0).bind fun vX=>(if ((l0.length:Int) % 2)=0 then (bP.j0 k l0 vX true) else (if (l0.length:Int) > 1024 then (bP.j0 k l0 vX true) else (if vX=0 then (bP.j0 k l0 vX true) else (bP.j0 k l0 vX (decide (vX > 1048576))))))
set_option maxHeartbeats 8000000 in
set_option maxRecDepth 100000 in
theorem bP.calls (k:Nat) (A0:Option Addr) (c0:Nat) (l0 r1:List Int) (r2:Int) (w:World) (hr0:Kd.C (Kd.int .i64) w A0 l0.length l0) (hc0:l0.length≤c0) (h:bP.f k l0=some (r1,r2)) :
  Calls Tryz.prog 96 #[.slice A0 l0.length c0] w fun e w'=>∃ v0_:Value,e = .returned (.tuple #[v0_,.int .i64 r2])∧Kd.R (Kd.int .i64) 2 w' w.heap.size (fun _=>True) v0_ r1∧Below w.heap.size w w':=by
 have HR0:=aj.mk hr0
 have HC0:=aj.mk hc0
 clear hr0 hc0
 have HB:=aj.mk (Below.refl w.heap.size w)
 have H:=h
 clear h
 unfold bP.f at H
 replace H:=zO H
 obtain ⟨vX,A2,H⟩:=H
 try dsimp only at H
 have HC3:=aj.mk H
 clear H
 go_enter Tryz.func96,Tryz.ntmps96
 go_upto_region 2 with (first|((with_reducible refine aA (f:=117) rfl ?_);refine aI (some 9) rfl rfl Tryz.func117 (by kernel_rfl) rfl #[.slice A0 l0.length c0] rfl zL ?_;(with_reducible refine (iI.calls k _ _ l0 vX _ ?iE ?iF A2.out).mono ?_);(case iE=>repeat (first|exact HR0.out|(with_reducible refine Kd.jd ?_ _)|(with_reducible refine Kd.jo ?_ _)|(with_reducible refine Kd.kC ?_)));(case iF=>exact HC0.out);rintro e w' ⟨rfl,⟨nd,rfl⟩⟩;refine ⟨_,rfl,?_⟩))
 (try simp only [Act.put,List.setIfInBounds_toArray,List.set_cons_zero,List.set_cons_succ])
 go_cut [26] (fun v26 wc=>∃ (kq:Nat) (abR:Bool),v26 = .bool abR∧aj (bP.j0 kq l0 vX abR=some (r1,r2))∧aj (kq≤k)∧aj (Below w.heap.size w wc))
 case first =>
  have H:=HC3.out
  clear HC3
  by_cases c4:((l0.length:Int) % 2)=0
  ·rw [if_pos c4] at H
   have gI:(((l0.length:Int) % 2) == 0)=true:=beq_iff_eq.mpr c4
   have adN:(((l0.length:Int) % 2) != 0)=false:=bne_eq_false_iff_eq.mpr c4
   clear c4
   (first|rw [gI]|(simp only [cZ,dB];rw [gI])|skip)
   have H':=aj.mk H
   clear H
   go_wp2
   go_meet
   case rel=>exact ⟨_,(true),zT,H',⟨by first|omega|exact Nat.le_refl _⟩,⟨zB⟩⟩
  ·rw [if_neg c4] at H
   have gI:(((l0.length:Int) % 2) == 0)=false:=beq_eq_false_iff_ne.mpr c4
   have adN:(((l0.length:Int) % 2) != 0)=true:=bne_iff_ne.mpr c4
   (first|rw [gI]|(simp only [cZ,dB];rw [gI])|skip)
   by_cases c5:(l0.length:Int) > 1024
   ·rw [if_pos c5] at H
    have iR:=decide_eq_true c5
    have acn:decide (1024 < l0.length)=true:=decide_eq_true (by omega)
    clear c5
    have H':=aj.mk H
    clear H
    go_wp2
    go_meet
    case rel=>exact ⟨_,(true),zT,H',⟨by first|omega|exact Nat.le_refl _⟩,⟨zB⟩⟩
   ·rw [if_neg c5] at H
    have iR:=decide_eq_false c5
    have acn:decide (1024 < l0.length)=false:=decide_eq_false (by omega)
    clear c5
    by_cases c6:vX=0
    ·rw [if_pos c6] at H
     have iJ:(vX == 0)=true:=beq_iff_eq.mpr c6
     have vS:(vX != 0)=false:=bne_eq_false_iff_eq.mpr c6
     clear c6
     have H':=aj.mk H
     clear H
     go_wp2
     go_meet
     case rel=>exact ⟨_,(true),zT,H',⟨by first|omega|exact Nat.le_refl _⟩,⟨zB⟩⟩
    ·rw [if_neg c6] at H
     have iJ:(vX == 0)=false:=beq_eq_false_iff_ne.mpr c6
     have vS:(vX != 0)=true:=bne_iff_ne.mpr c6
     have H':=aj.mk H
     clear H
     go_wp2
     go_meet
     case rel=>exact ⟨_,(decide (vX > 1048576)),zT,H',⟨by first|omega|exact Nat.le_refl _⟩,⟨zB⟩⟩
 case rest =>
  clear HC3
  obtain ⟨kq,abR,rfl,HA,HJ2,HB⟩:=hcut
  cases kq with
  | zero=>exact absurd HA.out (by simp [bP.j0])
  | succ kj2 =>
   have H:=HA.out
   clear HA
   simp only [bP.j0] at H
   by_cases c7:abR=true
   ·subst c7
    rw [if_pos rfl] at H;try dsimp only at H
    simp only [Option.some.injEq,Prod.mk.injEq] at H
    obtain ⟨rfl,rfl⟩:=H
    go_wp2
    go_ret2
    exact ⟨_,zS,by first|exact Kd.kS _ _ _ _ _|exact Kd.pz _ _ _ _ _|exact Kd.nM _ _ _ _ _|exact Kd.pF _ _ _ _ _|exact Kd.oH _ _ _ _ _,zB⟩
   ·replace c7:=Bool.eq_false_iff.mpr c7
    subst c7
    rw [if_neg (show ¬ (false=true) by decide)] at H;try dsimp only at H
    have H':=aj.mk H
    clear H
    go_wp2
    go_loopg [5,29] kj2 (fun kq v5 v29 w'=>∃ (mP:List Int) (mF:Int),v29 = .int .i64 mF∧aj (bP.l0 kq vX mP l0 (l0.length:Int) mF=some (r1,r2))∧aj (kq≤kj2)∧aj (Kd.R (Kd.int .i64) 2 w' w.heap.size (fun _=>True) v5 mP)∧aj (Below w.heap.size w w'))
    case atStart=>exact ⟨(([]:List Int)),(0),zT,H',⟨Nat.le_refl _⟩,⟨by first|exact Kd.kS _ _ _ _ _|exact Kd.pz _ _ _ _ _|exact Kd.nM _ _ _ _ _|exact Kd.pF _ _ _ _ _|exact Kd.oH _ _ _ _ _⟩,⟨zB⟩⟩
    case round =>
     clear H'
     obtain ⟨mP,mF,rfl,HA,HK2,xZ,HB⟩:=hrel
     cases gk with
     | zero=>exact absurd HA.out (by simp [bP.l0])
     | succ k2 =>
      have H:=HA.out
      clear HA
      simp only [bP.l0] at H
      by_cases c8:mF < (l0.length:Int)
      ·rw [if_pos c8] at H
       have xH:=decide_eq_true c8
       clear c8
       by_cases c9:0≤mF
       ·rw [if_pos c9] at H
        have sO:=decide_eq_true c9
        clear c9
        by_cases c10:mF < (l0.length:Int)
        ·rw [if_pos c10] at H
         have nN:=decide_eq_true c10
         clear c10
         replace H:=zO H
         obtain ⟨aiM,A11,H⟩:=H
         try dsimp only at H
         by_cases c12:mP.length < 17592186044416
         ·rw [if_pos c12] at H
          have aw0:=aj.mk c12
          clear c12
          obtain ⟨au6,ahH⟩:∃ y_:List Int,y_=(mP ++ [aiM]):=⟨_,rfl⟩
          replace H:(bP.l0 k2 vX au6 l0 (l0.length:Int) (wrap64 (mF+1)))=some (r1,r2):=by first|(rw [ahH];with_reducible exact H)|(have H2_:=(Option.bind_some _ _).symm.trans H;rw [ahH];with_reducible exact H2_)|(have H2_:=(Option.bind_some _ _).symm.trans H;with_reducible exact H2_)|with_reducible exact H|(rw [ahH];exact H)|exact H
          have aw1:=aj.mk ahH
          clear ahH
          have H':=aj.mk H
          clear H
          have arn:0≤(mF:Int):=of_decide_eq_true (by first|(with_reducible assumption)|assumption)
          have aro:mF < (l0.length:Int):=of_decide_eq_true (by first|(with_reducible assumption)|assumption)
          obtain ⟨aCC,aym,aiN⟩:=Kd.jV HR0.out mF arn aro
          cases aym
          replace aiN:=(HB.out.cell (World.block_lt_of_cell? w _ aiN)).trans aiN
          replace arn:=eq_true arn
          replace aro:=eq_true aro
          go_wp2_with (first|((with_reducible refine aA (f:=118) rfl ?_);refine aI (some 36) rfl rfl Tryz.func118 (by kernel_rfl) rfl #[.int .i64 (rd l0 mF),.int .i64 1073741824,.int .i64 vX] rfl zL ?_;(with_reducible refine (aZ.calls k2 (rd l0 mF) 1073741824 vX aiM _ A11.out).mono ?_);rintro e w13 ⟨rfl,hb⟩;refine ⟨_,rfl,?_⟩;obtain ⟨xZ,HB⟩:=zA2 (Kd.ji (by (with_reducible repeat (first|apply Kd.aK|apply Kd.aQ|apply Kd.aW));exact xZ.out) hb) (ak zB hb);(try clear hb))|((with_reducible refine jq (b := .append) (xs := #[.tmp 33,.tmp 37]) rfl ?_);(try (refine kW (by rfl) ?_;dsimp only));at_builtin;refine Kd.kV (Kd.int .i64) (w0:=w) w.heap.size rfl (.tmp 33) (.tmp 37) 44 2 (.int .i64 0) 8 rfl Tryz.underlying44 wY rfl (by decide) (by omega) u5 mP aiM [.int .i64 aiM] (fun _=>True) (fun _=>False) rfl rfl ?aP (fun _ hk=>hk.elim) ?aF ?aO ?aB ?aS ?aL ?_;(case aP=>exact rfl);(case aB=>exact zB);(case aF=>exact (fun _ _=>trivial));(case aO=>exact (by (with_reducible repeat (first|apply Kd.aK|apply Kd.aQ|apply Kd.aW));exact xZ.out));(case aS=>exact (bM zB));(case aL=>have:=aw0.out;omega);intro aDJ w14 ho hb hg hat;rw [← aw1.out] at ho;obtain ⟨HB,aw2⟩:=zA2 hb ho;clear ho hb hg hat))
          go_roundg k2
          case measure=>have:=HJ2.out;have:=HK2.out;omega
          case rel=>exact ⟨(au6),(wrap64 (mF+1)),zT,H',⟨by have:=HJ2.out;have:=HK2.out;omega⟩,⟨by (with_reducible repeat (first|apply Kd.aK|apply Kd.aQ|apply Kd.aW));exact aw2.out⟩,⟨zB⟩⟩
         ·rw [if_neg c12] at H
          exact absurd H (by simp)
        ·rw [if_neg c10] at H
         exact absurd H (by simp)
       ·rw [if_neg c9] at H
        exact absurd H (by simp)
      ·rw [if_neg c8] at H
       have xH:=decide_eq_false c8
       clear c8
       simp only [Option.some.injEq,Prod.mk.injEq] at H
       obtain ⟨rfl,rfl⟩:=H
       go_wp2
       go_ret2
       exact ⟨_,zS,by (with_reducible repeat (first|apply Kd.aK|apply Kd.aQ|apply Kd.aW));exact xZ.out,zB⟩
end Go.Proofs.YtpondkggmcmpfaaGreatDoor.QA
namespace Go.Proofs.YtpondkggmcmpfaaGreatDoor.QA
open Go.Proofs.YtpondkggmcmpfaaGreatDoor.T
open Go.RowKit Go.Proofs.YtpondkggmcmpfaaGreatDoorW.PrintWords Go.Proofs.YtpondkggmcmpfaaGreatDoorW.PrintLast Go.Proofs.YtpondkggmcmpfaaGreatDoorW.PrintMore
attribute [local go_sem] eG dX dY fF fG
set_option linter.unusedVariables false
set_option linter.unusedSimpArgs false
mutual
def dR.j0:Nat→Int→Bool→Option (List Int × Int)
 | 0,_,_=>none
 | k+1,x0,x10=>if x10=true then (some (([]:List Int),7)) else (dR.l0 k ([]:List Int) (wrap64 ((wrap64 (2*x0))+1)) 0)
def dR.l0:Nat→List Int→Int→Int→Option (List Int × Int)
 | 0,_,_,_=>none
 | k+1,x4,x13,x14=>if x14 < x13 then (if x4.length < 17592186044416 then (dR.l0 k (x4 ++ [1]) x13 (wrap64 (x14+1))) else (none)) else ((bP.f k x4).bind fun as3=>(some (as3.1,as3.2)))
end
def dR.f (k:Nat) (a0:Int):Option (List Int × Int):=if a0 < 0 then (dR.j0 k a0 true) else (dR.j0 k a0 (decide (a0 > 511)))
set_option maxHeartbeats 8000000 in
set_option maxRecDepth 100000 in
theorem dR.calls (k:Nat) (a0:Int) (r1:List Int) (r2:Int) (w:World) (h:dR.f k a0=some (r1,r2)) :
  Calls Tryz.prog 95 #[.int .i64 a0] w fun e w'=>∃ v0_:Value,e = .returned (.tuple #[v0_,.int .i64 r2])∧Kd.R (Kd.int .i64) 2 w' w.heap.size (fun _=>True) v0_ r1∧Below w.heap.size w w':=by
 have HB:=aj.mk (Below.refl w.heap.size w)
 have H:=h
 clear h
 unfold dR.f at H
 have HC2:=aj.mk H
 clear H
 go_enter Tryz.func95,Tryz.ntmps95
 go_upto_region 1 with (fail)
 go_cut [10] (fun v10 wc=>∃ (kq:Nat) (qj:Bool),v10 = .bool qj∧aj (dR.j0 kq a0 qj=some (r1,r2))∧aj (kq≤k)∧aj (Below w.heap.size w wc))
 case first =>
  have H:=HC2.out
  clear HC2
  by_cases c3:a0 < 0
  ·rw [if_pos c3] at H
   have gq:=decide_eq_true c3
   clear c3
   (first|rw [gq]|(simp only [cZ,dB];rw [gq])|skip)
   have H':=aj.mk H
   clear H
   go_wp2
   go_meet
   case rel=>exact ⟨_,(true),zT,H',⟨by first|omega|exact Nat.le_refl _⟩,⟨zB⟩⟩
  ·rw [if_neg c3] at H
   have gq:=decide_eq_false c3
   clear c3
   (first|rw [gq]|(simp only [cZ,dB];rw [gq])|skip)
   have H':=aj.mk H
   clear H
   go_wp2
   go_meet
   case rel=>exact ⟨_,(decide (a0 > 511)),zT,H',⟨by first|omega|exact Nat.le_refl _⟩,⟨zB⟩⟩
 case rest =>
  clear HC2
  obtain ⟨kq,qj,rfl,HA,HJ1,HB⟩:=hcut
  cases kq with
  | zero=>exact absurd HA.out (by simp [dR.j0])
  | succ kj1 =>
   have H:=HA.out
   clear HA
   simp only [dR.j0] at H
   by_cases c4:qj=true
   ·subst c4
    rw [if_pos rfl] at H;try dsimp only at H
    simp only [Option.some.injEq,Prod.mk.injEq] at H
    obtain ⟨rfl,rfl⟩:=H
    go_wp2
    go_ret2
    exact ⟨_,zS,by first|exact Kd.kS _ _ _ _ _|exact Kd.pz _ _ _ _ _|exact Kd.nM _ _ _ _ _|exact Kd.pF _ _ _ _ _|exact Kd.oH _ _ _ _ _,zB⟩
   ·replace c4:=Bool.eq_false_iff.mpr c4
    subst c4
    rw [if_neg (show ¬ (false=true) by decide)] at H;try dsimp only at H
    have H':=aj.mk H
    clear H
    go_wp2
    go_loopg [4,14] kj1 (fun kq v4 v14 w'=>∃ (wU:List Int) (aaj:Int),v14 = .int .i64 aaj∧aj (dR.l0 kq wU (wrap64 ((wrap64 (2*a0))+1)) aaj=some (r1,r2))∧aj (kq≤kj1)∧aj (Kd.R (Kd.int .i64) 2 w' w.heap.size (fun _=>True) v4 wU)∧aj (Below w.heap.size w w'))
    case atStart=>exact ⟨(([]:List Int)),(0),zT,H',⟨Nat.le_refl _⟩,⟨by first|exact Kd.kS _ _ _ _ _|exact Kd.pz _ _ _ _ _|exact Kd.nM _ _ _ _ _|exact Kd.pF _ _ _ _ _|exact Kd.oH _ _ _ _ _⟩,⟨zB⟩⟩
    case round =>
     clear H'
     obtain ⟨wU,aaj,rfl,HA,HK2,agN,HB⟩:=hrel
     cases gk with
     | zero=>exact absurd HA.out (by simp [dR.l0])
     | succ k2 =>
      have H:=HA.out
      clear HA
      simp only [dR.l0] at H
      by_cases c5:aaj < (wrap64 ((wrap64 (2*a0))+1))
      ·rw [if_pos c5] at H
       have iR:=decide_eq_true c5
       clear c5
       by_cases c6:wU.length < 17592186044416
       ·rw [if_pos c6] at H
        have ayn:=aj.mk c6
        clear c6
        obtain ⟨au7,ahI⟩:∃ y_:List Int,y_=(wU ++ [1]):=⟨_,rfl⟩
        replace H:(dR.l0 k2 au7 (wrap64 ((wrap64 (2*a0))+1)) (wrap64 (aaj+1)))=some (r1,r2):=by first|(rw [ahI];with_reducible exact H)|(have H2_:=(Option.bind_some _ _).symm.trans H;rw [ahI];with_reducible exact H2_)|(have H2_:=(Option.bind_some _ _).symm.trans H;with_reducible exact H2_)|with_reducible exact H|(rw [ahI];exact H)|exact H
        have aw3:=aj.mk ahI
        clear ahI
        have H':=aj.mk H
        clear H
        go_wp2_with (first|((with_reducible refine jq (b := .append) (xs := #[.tmp 16,.tmp 17]) rfl ?_);at_builtin;refine Kd.kV (Kd.int .i64) (w0:=w) w.heap.size rfl (.tmp 16) (.tmp 17) 44 2 (.int .i64 0) 8 rfl Tryz.underlying44 wY rfl (by decide) (by omega) u4 wU 1 [.int .i64 1] (fun _=>True) (fun _=>False) rfl rfl ?aP (fun _ hk=>hk.elim) ?aF ?aO ?aB ?aS ?aL ?_;(case aP=>exact rfl);(case aB=>exact zB);(case aF=>exact (fun _ _=>trivial));(case aO=>exact (by (with_reducible repeat (first|apply Kd.aK|apply Kd.aQ|apply Kd.aW));exact agN.out));(case aS=>exact (bM zB));(case aL=>have:=ayn.out;omega);intro aDK w7 ho hb hg hat;rw [← aw3.out] at ho;obtain ⟨HB,aw4⟩:=zA2 hb ho;clear ho hb hg hat))
        go_roundg k2
        case measure=>have:=HJ1.out;have:=HK2.out;omega
        case rel=>exact ⟨(au7),(wrap64 (aaj+1)),zT,H',⟨by have:=HJ1.out;have:=HK2.out;omega⟩,⟨by (with_reducible repeat (first|apply Kd.aK|apply Kd.aQ|apply Kd.aW));exact aw4.out⟩,⟨zB⟩⟩
       ·rw [if_neg c6] at H
        exact absurd H (by simp)
      ·rw [if_neg c5] at H
       have iR:=decide_eq_false c5
       clear c5
       replace H:=zO H
       obtain ⟨⟨ayo,ayp⟩,A8,H⟩:=H
       try dsimp only at H
       simp only [Option.some.injEq,Prod.mk.injEq] at H
       obtain ⟨rfl,rfl⟩:=H
       obtain ⟨Ao9,co9,eo9⟩:=Kd.gQ agN.out
       subst eo9
       go_wp2_with (first|((with_reducible refine aA (f:=96) rfl ?_);refine aI (some 21) rfl rfl Tryz.func96 (by kernel_rfl) rfl #[.slice Ao9 wU.length co9] rfl zL ?_;(with_reducible refine (bP.calls k2 _ _ wU ayo ayp _ ?iE ?iF A8.out).mono ?_);(case iE=>repeat (first|exact (Kd.dP agN.out).2.2|(with_reducible refine Kd.jd ?_ _)|(with_reducible refine Kd.jo ?_ _)|(with_reducible refine Kd.kC ?_)));(case iF=>exact (Kd.dP agN.out).2.1);rintro e w10 ⟨aDL,rfl,ho0,hb⟩;refine ⟨_,rfl,?_⟩;obtain ⟨agN,aw5,HB⟩:=zA3 (Kd.iT (by (with_reducible repeat (first|apply Kd.aK|apply Kd.aQ|apply Kd.aW));exact agN.out) (Kd.jC ho0) hb) (Kd.gK (Kd.kG ho0 (Kd.lQ (by (with_reducible repeat (first|apply Kd.aK|apply Kd.aQ|apply Kd.aW));exact agN.out))) (bM zB)) (ak zB hb);(try clear hb);(try clear ho0)))
       go_ret2
       exact ⟨_,zS,by (with_reducible repeat (first|apply Kd.aK|apply Kd.aQ|apply Kd.aW));exact Kd.dM aw5.out (fun _ hk=>trivial),zB⟩
def ny.f (a0:Int):Option (Bool):=if a0≥1 then (some (decide (a0≤4096))) else (some false)
set_option maxHeartbeats 8000000 in
set_option maxRecDepth 100000 in
theorem ny.calls (a0:Int) (r:Bool) (w:World) (h:ny.f a0=some r) :
  Calls Tryz.prog 61 #[.int .i64 a0] w fun e w'=>e = .returned (.bool r)∧dH w w':=by
 have H:=h
 clear h
 unfold ny.f at H
 by_cases c2:a0≥1
 ·rw [if_pos c2] at H
  have lS:=decide_eq_true c2
  clear c2
  obtain rfl:=Option.some.inj H
  go_enter Tryz.func61,Tryz.ntmps61
  go_wp2
  go_ret
  exact ⟨zT,zW⟩
 ·rw [if_neg c2] at H
  have lS:=decide_eq_false c2
  clear c2
  obtain rfl:=Option.some.inj H
  go_enter Tryz.func61,Tryz.ntmps61
  go_wp2
  go_ret
  exact ⟨zT,zW⟩
def vY.f (a0 a1:Int):Option (Int):=if a1=0 then (none) else (some (wrap64 (Int.tdiv (wrap64 ((wrap64 (a0+a1)) - 1)) a1)))
set_option maxHeartbeats 8000000 in
set_option maxRecDepth 100000 in
theorem vY.calls (a0 a1 r:Int) (w:World) (h:vY.f a0 a1=some r) :
  Calls Tryz.prog 65 #[.int .i64 a0,.int .i64 a1] w fun e w'=>e = .returned (.int .i64 r)∧dH w w':=by
 have H:=h
 clear h
 unfold vY.f at H
 by_cases c3:a1=0
 ·rw [if_pos c3] at H
  exact absurd H (by simp)
 ·rw [if_neg c3] at H
  have gq:(a1 == 0)=false:=beq_eq_false_iff_ne.mpr c3
  have yD:(a1 != 0)=true:=bne_iff_ne.mpr c3
  obtain rfl:=Option.some.inj H
  go_enter Tryz.func65,Tryz.ntmps65
  go_wp2
  go_ret
  exact ⟨zT,zW⟩
end Go.Proofs.YtpondkggmcmpfaaGreatDoor.QA
