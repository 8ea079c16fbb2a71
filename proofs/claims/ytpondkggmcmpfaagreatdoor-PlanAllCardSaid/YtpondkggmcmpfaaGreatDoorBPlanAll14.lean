/- Joined by wip/tools/bundle.py out of: QAx36 QAx37 QAx38 QAx39 QAx40 QAx41 QAx43. -/
import Derived.Test.YtpondkggmcmpfaaGreatDoorBPlanAll0
import Derived.Test.YtpondkggmcmpfaaGreatDoorBPlanAll1
import Derived.Test.YtpondkggmcmpfaaGreatDoorBPlanAll13
import Derived.Test.YtpondkggmcmpfaaGreatDoorBPlanAll7
import Derived.Test.YtpondkggmcmpfaaGreatDoorBPlanAll12
namespace Go.Proofs.YtpondkggmcmpfaaGreatDoor.QA
open Go.Proofs.YtpondkggmcmpfaaGreatDoor.T
open Go.RowKit Go.Proofs.YtpondkggmcmpfaaGreatDoorW.PrintWords Go.Proofs.YtpondkggmcmpfaaGreatDoorW.PrintLast Go.Proofs.YtpondkggmcmpfaaGreatDoorW.PrintMore
attribute [local go_sem] eP dV dW fM fO
set_option linter.unusedVariables false
set_option linter.unusedSimpArgs false
mutual
def aG.j0:Nat→List Int→Bool→Option (List Int × Int)
 | 0,_,_=>none
 | k+1,x0,x22=>if x22=true then (some (([]:List Int),7)) else (aG.l0 k x0 x0 (x0.length:Int) 0)
def aG.l0:Nat→List Int→List Int→Int→Int→Option (List Int × Int)
 | 0,_,_,_,_=>none
 | k+1,x0,x23,x24,x25=>if x25 < x24 then (if 0≤x25 then (if x25 < (x23.length:Int) then ((iD.f (rd x23 x25)).bind fun acZ=>(if acZ > 1099511627776 then (some (([]:List Int),7)) else (aG.l0 k x0 x23 x24 (wrap64 (x25+1))))) else (none)) else (none)) else ((eG.f k x0).bind fun pR=>(if pR < 268435456 then (some (([]:List Int),8)) else (aG.l1 k pR ([]:List Int) ([]:List Int) 16384 x0 (x0.length:Int) 0)))
def aG.l1:Nat→Int→List Int→List Int→Int→List Int→Int→Int→Option (List Int × Int)
 | 0,_,_,_,_,_,_,_=>none
 | k+1,x6,x7,x8,x9,x37,x38,x39=>if x39 < x38 then (if 0≤x39 then (if x39 < (x37.length:Int) then ((dR.f k (wrap64 ((rd x37 x39)*16384)) x6).bind fun pF=>(if x7.length < 17592186044416 then (if x8.length < 17592186044416 then (aG.l1 k x6 (x7 ++ [pF]) (x8 ++ [wrap64 ((wrap64 ((rd x37 x39)*16384)) - (wrap64 (pF*x6)))]) (wrap64 (x9 - pF)) x37 x38 (wrap64 (x39+1))) else (none)) else (none))) else (none)) else (none)) else (aG.l2 k x7 x8 x9)
def aG.l2:Nat→List Int→List Int→Int→Option (List Int × Int)
 | 0,_,_,_=>none
 | k+1,x7,x8,x9=>if x9 > 0 then (aG.l3 k x7 x8 x9 0 (x8.length:Int) 0) else (some (x7,0))
def aG.l3:Nat→List Int→List Int→Int→Int→Int→Int→Option (List Int × Int)
 | 0,_,_,_,_,_,_=>none
 | k+1,x7,x8,x9,x13,x67,x68=>if x68 < x67 then (if 0≤x68 then (if x68 < (x8.length:Int) then (if 0≤x13 then (if x13 < (x8.length:Int) then (if (rd x8 x68) > (rd x8 x13) then (aG.l3 k x7 x8 x9 x68 x67 (wrap64 (x68+1))) else (aG.l3 k x7 x8 x9 x13 x67 (wrap64 (x68+1)))) else (none)) else (none)) else (none)) else (none)) else (if 0≤x13 then (if x13 < (x7.length:Int) then (if x13 < (x8.length:Int) then (aG.l2 k (x7.set (x13:Int).toNat (wrap64 ((rd x7 x13)+1))) (x8.set (x13:Int).toNat (-1)) (wrap64 (x9 - 1))) else (none)) else (none)) else (none))
end
def aG.f (k:Nat) (l0:List Int):Option (List Int × Int):=if (l0.length:Int) < 1 then (aG.j0 k l0 true) else (aG.j0 k l0 (decide ((l0.length:Int) > 1048576)))
set_option maxHeartbeats 8000000 in
set_option maxRecDepth 100000 in
theorem aG.calls (k:Nat) (A0:Option Addr) (c0:Nat) (l0 r1:List Int) (r2:Int) (w:World) (hr0:Kd.C (Kd.int .i64) w A0 l0.length l0) (hc0:l0.length≤c0) (h:aG.f k l0=some (r1,r2)) :
  Calls Tryz.prog 115 #[.slice A0 l0.length c0] w fun e w'=>∃ v0_:Value,e = .returned (.tuple #[v0_,.int .i64 r2])∧Kd.R (Kd.int .i64) 2 w' w.heap.size (fun _=>True) v0_ r1∧Below w.heap.size w w':=by
 have HR0:=aj.mk hr0
 have HC0:=aj.mk hc0
 clear hr0 hc0
 have HB:=aj.mk (Below.refl w.heap.size w)
 have H:=h
 clear h
 unfold aG.f at H
 have HC2:=aj.mk H
 clear H
 go_enter Tryz.func115,Tryz.ntmps115
 go_upto_region 1 with (fail)
 repeat (go_quiet (fail);go_upto_region 1 with (fail))
 go_cut [22] (fun v22 wc=>∃ (kq:Nat) (aiT:Bool),v22 = .bool aiT∧aj (aG.j0 kq l0 aiT=some (r1,r2))∧aj (kq≤k)∧aj (Below w.heap.size w wc))
 case first =>
  have H:=HC2.out
  clear HC2
  by_cases c3:(l0.length:Int) < 1
  ·rw [if_pos c3] at H
   have fK:=decide_eq_true c3
   have wJ:decide (l0.length < 1)=true:=decide_eq_true (by omega)
   clear c3
   (first|rw [fK]|(simp only [bW,dh];rw [fK])|skip)
   have H':=aj.mk H
   clear H
   go_wp2
   repeat (go_quiet (fail);try go_wp2)
   go_meet
   case rel=>exact ⟨_,(true),zT,H',⟨by first|omega|exact Nat.le_refl _⟩,⟨zB⟩⟩
  ·rw [if_neg c3] at H
   have fK:=decide_eq_false c3
   have wJ:decide (l0.length < 1)=false:=decide_eq_false (by omega)
   clear c3
   (first|rw [fK]|(simp only [bW,dh];rw [fK])|skip)
   have H':=aj.mk H
   clear H
   go_wp2
   repeat (go_quiet (fail);try go_wp2)
   go_meet
   case rel=>exact ⟨_,(decide ((l0.length:Int) > 1048576)),zT,H',⟨by first|omega|exact Nat.le_refl _⟩,⟨zB⟩⟩
 case rest =>
  clear HC2
  obtain ⟨kq,aiT,rfl,HA,HJ1,HB⟩:=hcut
  cases kq with
  | zero=>exact absurd HA.out (by simp [aG.j0])
  | succ kj1 =>
   have H:=HA.out
   clear HA
   simp only [aG.j0] at H
   by_cases c4:aiT=true
   ·subst c4
    rw [if_pos rfl] at H;try dsimp only at H
    simp only [Option.some.injEq,Prod.mk.injEq] at H
    obtain ⟨rfl,rfl⟩:=H
    go_wp2
    repeat (go_quiet (fail);try go_wp2)
    go_ret2
    exact ⟨_,zS,by first|exact Kd.jY _ _ _ _ _|exact Kd.oJ _ _ _ _ _|exact Kd.nG _ _ _ _ _|exact Kd.oK _ _ _ _ _|exact Kd.oz _ _ _ _ _,zB⟩
   ·replace c4:=Bool.eq_false_iff.mpr c4
    subst c4
    rw [if_neg (show ¬ (false=true) by decide)] at H;try dsimp only at H
    have H':=aj.mk H
    clear H
    go_wp2
    repeat (go_quiet (fail);try go_wp2)
    go_loopg [25] kj1 (fun kq v25 w'=>∃ (pU:Int),v25 = .int .i64 pU∧aj (aG.l0 kq l0 l0 (l0.length:Int) pU=some (r1,r2))∧aj (kq≤kj1)∧aj (Below w.heap.size w w'))
    case atStart=>exact ⟨(0),zT,H',⟨Nat.le_refl _⟩,⟨zB⟩⟩
    case round =>
     clear H'
     obtain ⟨pU,rfl,HA,HK2,HB⟩:=hrel
     cases gk with
     | zero=>exact absurd HA.out (by simp [aG.l0])
     | succ k2 =>
      have H:=HA.out
      clear HA
      simp only [aG.l0] at H
      by_cases c5:pU < (l0.length:Int)
      ·rw [if_pos c5] at H
       have iJ:=decide_eq_true c5
       clear c5
       by_cases c6:0≤pU
       ·rw [if_pos c6] at H
        have ig:=decide_eq_true c6
        clear c6
        by_cases c7:pU < (l0.length:Int)
        ·rw [if_pos c7] at H
         have jq:=decide_eq_true c7
         clear c7
         replace H:=zO H
         obtain ⟨acZ,A8,H⟩:=H
         try dsimp only at H
         by_cases c9:acZ > 1099511627776
         ·rw [if_pos c9] at H
          have qH:=decide_eq_true c9
          clear c9
          simp only [Option.some.injEq,Prod.mk.injEq] at H
          obtain ⟨rfl,rfl⟩:=H
          have aft:0≤(pU:Int):=of_decide_eq_true (by first|(with_reducible assumption)|assumption)
          have afu:pU < (l0.length:Int):=of_decide_eq_true (by first|(with_reducible assumption)|assumption)
          obtain ⟨aug,aoV,zC⟩:=Kd.jC HR0.out pU aft afu
          cases aoV
          replace zC:=(HB.out.cell (World.block_lt_of_cell? w _ zC)).trans zC
          replace aft:=eq_true aft
          replace afu:=eq_true afu
          go_wp2_with (first|(go_at_call 142;(with_reducible refine (iD.calls (rd l0 pU) acZ _ A8.out).mono ?_);rintro e w' ⟨rfl,⟨nd,rfl⟩⟩;(try exact ⟨rfl,_,zN⟩)))
          repeat (go_quiet (first|(go_at_call 142;(with_reducible refine (iD.calls (rd l0 pU) acZ _ A8.out).mono ?_);rintro e w' ⟨rfl,⟨nd,rfl⟩⟩;(try exact ⟨rfl,_,zN⟩)));try go_wp2_with (first|(go_at_call 142;(with_reducible refine (iD.calls (rd l0 pU) acZ _ A8.out).mono ?_);rintro e w' ⟨rfl,⟨nd,rfl⟩⟩;(try exact ⟨rfl,_,zN⟩))))
          go_ret2
          exact ⟨_,zS,by first|exact Kd.jY _ _ _ _ _|exact Kd.oJ _ _ _ _ _|exact Kd.nG _ _ _ _ _|exact Kd.oK _ _ _ _ _|exact Kd.oz _ _ _ _ _,zB⟩
         ·rw [if_neg c9] at H
          have qH:=decide_eq_false c9
          clear c9
          have H':=aj.mk H
          clear H
          have aft:0≤(pU:Int):=of_decide_eq_true (by first|(with_reducible assumption)|assumption)
          have afu:pU < (l0.length:Int):=of_decide_eq_true (by first|(with_reducible assumption)|assumption)
          obtain ⟨aug,aoV,zC⟩:=Kd.jC HR0.out pU aft afu
          cases aoV
          replace zC:=(HB.out.cell (World.block_lt_of_cell? w _ zC)).trans zC
          replace aft:=eq_true aft
          replace afu:=eq_true afu
          go_wp2_with (first|(go_at_call 142;(with_reducible refine (iD.calls (rd l0 pU) acZ _ A8.out).mono ?_);rintro e w' ⟨rfl,⟨nd,rfl⟩⟩;(try exact ⟨rfl,_,zN⟩)))
          repeat (go_quiet (first|(go_at_call 142;(with_reducible refine (iD.calls (rd l0 pU) acZ _ A8.out).mono ?_);rintro e w' ⟨rfl,⟨nd,rfl⟩⟩;(try exact ⟨rfl,_,zN⟩)));try go_wp2_with (first|(go_at_call 142;(with_reducible refine (iD.calls (rd l0 pU) acZ _ A8.out).mono ?_);rintro e w' ⟨rfl,⟨nd,rfl⟩⟩;(try exact ⟨rfl,_,zN⟩))))
          go_roundg k2
          case measure=>have:=HJ1.out;have:=HK2.out;omega
          case rel=>exact ⟨(wrap64 (pU+1)),zT,H',⟨by have:=HJ1.out;have:=HK2.out;omega⟩,⟨zB⟩⟩
        ·rw [if_neg c7] at H
         exact absurd H (by simp)
       ·rw [if_neg c6] at H
        exact absurd H (by simp)
      ·rw [if_neg c5] at H
       have iJ:=decide_eq_false c5
       clear c5
       replace H:=zO H
       obtain ⟨pR,A10,H⟩:=H
       try dsimp only at H
       by_cases c11:pR < 268435456
       ·rw [if_pos c11] at H
        have iL:=decide_eq_true c11
        clear c11
        simp only [Option.some.injEq,Prod.mk.injEq] at H
        obtain ⟨rfl,rfl⟩:=H
        go_wp2_with (first|(go_at_call 143;(with_reducible refine (eG.calls k2 _ _ l0 pR _ ?iG ?iH A10.out).mono ?_);(case iG=>repeat (first|exact (Kd.bY HR0.out HB.out)|(with_reducible refine Kd.jd ?_ _)|(with_reducible refine Kd.jB ?_ _)|(with_reducible refine Kd.kC ?_)));(case iH=>exact HC0.out);rintro e w' ⟨rfl,⟨nd,rfl⟩⟩;(try exact ⟨rfl,_,zN⟩)))
        repeat (go_quiet (first|(go_at_call 143;(with_reducible refine (eG.calls k2 _ _ l0 pR _ ?iG ?iH A10.out).mono ?_);(case iG=>repeat (first|exact (Kd.bY HR0.out HB.out)|(with_reducible refine Kd.jd ?_ _)|(with_reducible refine Kd.jB ?_ _)|(with_reducible refine Kd.kC ?_)));(case iH=>exact HC0.out);rintro e w' ⟨rfl,⟨nd,rfl⟩⟩;(try exact ⟨rfl,_,zN⟩)));try go_wp2_with (first|(go_at_call 143;(with_reducible refine (eG.calls k2 _ _ l0 pR _ ?iG ?iH A10.out).mono ?_);(case iG=>repeat (first|exact (Kd.bY HR0.out HB.out)|(with_reducible refine Kd.jd ?_ _)|(with_reducible refine Kd.jB ?_ _)|(with_reducible refine Kd.kC ?_)));(case iH=>exact HC0.out);rintro e w' ⟨rfl,⟨nd,rfl⟩⟩;(try exact ⟨rfl,_,zN⟩))))
        go_ret2
        exact ⟨_,zS,by first|exact Kd.jY _ _ _ _ _|exact Kd.oJ _ _ _ _ _|exact Kd.nG _ _ _ _ _|exact Kd.oK _ _ _ _ _|exact Kd.oz _ _ _ _ _,zB⟩
       ·rw [if_neg c11] at H
        have iL:=decide_eq_false c11
        clear c11
        have H':=aj.mk H
        clear H
        go_wp2_with (first|(go_at_call 143;(with_reducible refine (eG.calls k2 _ _ l0 pR _ ?iG ?iH A10.out).mono ?_);(case iG=>repeat (first|exact (Kd.bY HR0.out HB.out)|(with_reducible refine Kd.jd ?_ _)|(with_reducible refine Kd.jB ?_ _)|(with_reducible refine Kd.kC ?_)));(case iH=>exact HC0.out);rintro e w' ⟨rfl,⟨nd,rfl⟩⟩;(try exact ⟨rfl,_,zN⟩)))
        repeat (go_quiet (first|(go_at_call 143;(with_reducible refine (eG.calls k2 _ _ l0 pR _ ?iG ?iH A10.out).mono ?_);(case iG=>repeat (first|exact (Kd.bY HR0.out HB.out)|(with_reducible refine Kd.jd ?_ _)|(with_reducible refine Kd.jB ?_ _)|(with_reducible refine Kd.kC ?_)));(case iH=>exact HC0.out);rintro e w' ⟨rfl,⟨nd,rfl⟩⟩;(try exact ⟨rfl,_,zN⟩)));try go_wp2_with (first|(go_at_call 143;(with_reducible refine (eG.calls k2 _ _ l0 pR _ ?iG ?iH A10.out).mono ?_);(case iG=>repeat (first|exact (Kd.bY HR0.out HB.out)|(with_reducible refine Kd.jd ?_ _)|(with_reducible refine Kd.jB ?_ _)|(with_reducible refine Kd.kC ?_)));(case iH=>exact HC0.out);rintro e w' ⟨rfl,⟨nd,rfl⟩⟩;(try exact ⟨rfl,_,zN⟩))))
        try simp only [Act.put,List.setIfInBounds_toArray,List.set_cons_succ,List.set_cons_zero]
        go_loopg [7,8,9,39] k2 (fun kq v7 v8 v9 v39 w'=>∃ (yK:List Int) (abl:List Int) (afv:Int) (nT:Int),v9 = .int .i64 afv∧v39 = .int .i64 nT∧aj (aG.l1 kq pR yK abl afv l0 (l0.length:Int) nT=some (r1,r2))∧aj (kq≤k2)∧aj (Kd.R (Kd.int .i64) 2 w' w.heap.size (fun k_=>some k_≠(v8:Value).ownBlock) v7 yK)∧aj (Kd.R (Kd.int .i64) 2 w' w.heap.size (fun k_=>some k_≠(v7:Value).ownBlock) v8 abl)∧aj (Below w.heap.size w w'))
        case atStart=>exact ⟨(([]:List Int)),(([]:List Int)),(16384),(0),zT,zT,H',⟨Nat.le_refl _⟩,⟨by first|exact Kd.jY _ _ _ _ _|exact Kd.oJ _ _ _ _ _|exact Kd.nG _ _ _ _ _|exact Kd.oK _ _ _ _ _|exact Kd.oz _ _ _ _ _⟩,⟨by first|exact Kd.jY _ _ _ _ _|exact Kd.oJ _ _ _ _ _|exact Kd.nG _ _ _ _ _|exact Kd.oK _ _ _ _ _|exact Kd.oz _ _ _ _ _⟩,⟨zB⟩⟩
        case round =>
         clear H'
         try clear hx3
         obtain ⟨yK,abl,afv,nT,rfl,rfl,HA,HK3,jk,dN,HB⟩:=hrel
         cases gk with
         | zero=>exact absurd HA.out (by simp [aG.l1])
         | succ k3 =>
          have H:=HA.out
          clear HA
          simp only [aG.l1] at H
          by_cases c12:nT < (l0.length:Int)
          ·rw [if_pos c12] at H
           have aaX:=decide_eq_true c12
           clear c12
           by_cases c13:0≤nT
           ·rw [if_pos c13] at H
            have abM:=decide_eq_true c13
            clear c13
            by_cases c14:nT < (l0.length:Int)
            ·rw [if_pos c14] at H
             have abN:=decide_eq_true c14
             clear c14
             replace H:=zO H
             obtain ⟨pF,A15,H⟩:=H
             try dsimp only at H
             by_cases c16:yK.length < 17592186044416
             ·rw [if_pos c16] at H
              have amj:=aj.mk c16
              clear c16
              obtain ⟨aoW,agu⟩:∃ y_:List Int,y_=(yK ++ [pF]):=⟨_,rfl⟩
              replace H:(if abl.length < 17592186044416 then (aG.l1 k3 pR aoW (abl ++ [wrap64 ((wrap64 ((rd l0 nT)*16384)) - (wrap64 (pF*pR)))]) (wrap64 (afv - pF)) l0 (l0.length:Int) (wrap64 (nT+1))) else (none))=some (r1,r2):=by first|(rw [agu];with_reducible exact H)|(have H2_:=(Option.bind_some _ _).symm.trans H;rw [agu];with_reducible exact H2_)|(have H2_:=(Option.bind_some _ _).symm.trans H;with_reducible exact H2_)|with_reducible exact H|(rw [agu];exact H)|exact H
              have amk:=aj.mk agu
              clear agu
              by_cases c17:abl.length < 17592186044416
              ·rw [if_pos c17] at H
               have aml:=aj.mk c17
               clear c17
               obtain ⟨asf,agv⟩:∃ y_:List Int,y_=(abl ++ [wrap64 ((wrap64 ((rd l0 nT)*16384)) - (wrap64 (pF*pR)))]):=⟨_,rfl⟩
               replace H:(aG.l1 k3 pR aoW asf (wrap64 (afv - pF)) l0 (l0.length:Int) (wrap64 (nT+1)))=some (r1,r2):=by first|(rw [agv];with_reducible exact H)|(have H2_:=(Option.bind_some _ _).symm.trans H;rw [agv];with_reducible exact H2_)|(have H2_:=(Option.bind_some _ _).symm.trans H;with_reducible exact H2_)|with_reducible exact H|(rw [agv];exact H)|exact H
               have amm:=aj.mk agv
               clear agv
               have H':=aj.mk H
               clear H
               have aoX:0≤(nT:Int):=of_decide_eq_true (by first|(with_reducible assumption)|assumption)
               have aoY:nT < (l0.length:Int):=of_decide_eq_true (by first|(with_reducible assumption)|assumption)
               obtain ⟨azF,avm,ahm⟩:=Kd.jC HR0.out nT aoX aoY
               cases avm
               replace ahm:=(HB.out.cell (World.block_lt_of_cell? w _ ahm)).trans ahm
               replace aoX:=eq_true aoX
               replace aoY:=eq_true aoY
               go_wp2_with (first|(go_at_call 144;(with_reducible refine (dR.calls k3 (wrap64 ((rd l0 nT)*16384)) pR pF _ A15.out).mono ?_);rintro e w18 ⟨rfl,hb⟩;obtain ⟨jk,dN,HB⟩:=zA3 (Kd.jK (by (with_reducible repeat (first|apply Kd.aK|apply Kd.aQ|apply Kd.aW));exact jk.out) hb) (Kd.jK (by (with_reducible repeat (first|apply Kd.aK|apply Kd.aQ|apply Kd.aW));exact dN.out) hb) (ak zB hb);(try clear hb))|((with_reducible refine jD (b := .append) (xs := #[.tmp 47,.tmp 49]) rfl ?_);(try (refine jZ (by rfl) ?_;dsimp only));at_builtin;refine Kd.kT (Kd.int .i64) (w0:=w) w.heap.size rfl (.tmp 47) (.tmp 49) 44 2 (.int .i64 0) 8 rfl Tryz.underlying44 vw rfl (by decide) (by omega) u7 yK pF [.int .i64 pF] (fun k_=>some k_≠(u8:Value).ownBlock) (fun _=>False) rfl rfl ?aP (fun _ hk=>hk.elim) ?aF ?aO ?aB ?aS ?aL ?_;(case aP=>exact rfl);(case aB=>exact zB);(case aF=>exact (fun k_ hk=>Kd.fresh' (Kd.kU (by (with_reducible repeat (first|apply Kd.aK|apply Kd.aQ|apply Kd.aW));exact dN.out)) k_ hk));(case aO=>exact (by (with_reducible repeat (first|apply Kd.aK|apply Kd.aQ|apply Kd.aW));exact jk.out));(case aS=>exact (bF zB));(case aL=>have:=amj.out;omega);intro ajP w19 ho hb hg hat;rw [← amk.out] at ho;obtain ⟨dN,HB,xA⟩:=zA3 (Kd.qL (ok:=(fun _=>True)) (by (with_reducible repeat (first|apply Kd.aK|apply Kd.aQ|apply Kd.aW));exact Kd.dX dN.out (fun _ hk=>⟨trivial,hk⟩)) hg hat) hb ho;clear ho hb hg hat)|((with_reducible refine jD (b := .append) (xs := #[.tmp 51,.tmp 58]) rfl ?_);(try (refine jZ (by rfl) ?_;dsimp only));at_builtin;refine Kd.kT (Kd.int .i64) (w0:=w) w.heap.size rfl (.tmp 51) (.tmp 58) 44 2 (.int .i64 0) 8 rfl Tryz.underlying44 vw rfl (by decide) (by omega) u8 abl (wrap64 ((wrap64 ((rd l0 nT)*16384)) - (wrap64 (pF*pR)))) [.int .i64 (wrap64 ((wrap64 ((rd l0 nT)*16384)) - (wrap64 (pF*pR))))] (fun k_=>some k_≠(ajP:Value).ownBlock) (fun _=>False) rfl rfl ?aP (fun _ hk=>hk.elim) ?aF ?aO ?aB ?aS ?aL ?_;(case aP=>exact rfl);(case aB=>exact zB);(case aF=>exact (fun k_ hk=>Kd.fresh' (Kd.kU (by (with_reducible repeat (first|apply Kd.aK|apply Kd.aQ|apply Kd.aW));exact xA.out)) k_ hk));(case aO=>exact (by (with_reducible repeat (first|apply Kd.aK|apply Kd.aQ|apply Kd.aW));exact Kd.dX dN.out (fun _ hk=>hk.2)));(case aS=>exact (bF zB));(case aL=>have:=aml.out;omega);intro asg w20 ho hb hg hat;rw [← amm.out] at ho;obtain ⟨xA,HB,amn⟩:=zA3 (Kd.qL (ok:=(fun _=>True)) (by (with_reducible repeat (first|apply Kd.aK|apply Kd.aQ|apply Kd.aW));exact Kd.dX xA.out (fun _ hk=>⟨trivial,hk⟩)) hg hat) hb ho;clear ho hb hg hat))
               repeat (go_quiet (first|(go_at_call 144;(with_reducible refine (dR.calls k3 (wrap64 ((rd l0 nT)*16384)) pR pF _ A15.out).mono ?_);rintro e w18 ⟨rfl,hb⟩;obtain ⟨jk,dN,HB⟩:=zA3 (Kd.jK (by (with_reducible repeat (first|apply Kd.aK|apply Kd.aQ|apply Kd.aW));exact jk.out) hb) (Kd.jK (by (with_reducible repeat (first|apply Kd.aK|apply Kd.aQ|apply Kd.aW));exact dN.out) hb) (ak zB hb);(try clear hb))|((with_reducible refine jD (b := .append) (xs := #[.tmp 47,.tmp 49]) rfl ?_);(try (refine jZ (by rfl) ?_;dsimp only));at_builtin;refine Kd.kT (Kd.int .i64) (w0:=w) w.heap.size rfl (.tmp 47) (.tmp 49) 44 2 (.int .i64 0) 8 rfl Tryz.underlying44 vw rfl (by decide) (by omega) u7 yK pF [.int .i64 pF] (fun k_=>some k_≠(u8:Value).ownBlock) (fun _=>False) rfl rfl ?aP (fun _ hk=>hk.elim) ?aF ?aO ?aB ?aS ?aL ?_;(case aP=>exact rfl);(case aB=>exact zB);(case aF=>exact (fun k_ hk=>Kd.fresh' (Kd.kU (by (with_reducible repeat (first|apply Kd.aK|apply Kd.aQ|apply Kd.aW));exact dN.out)) k_ hk));(case aO=>exact (by (with_reducible repeat (first|apply Kd.aK|apply Kd.aQ|apply Kd.aW));exact jk.out));(case aS=>exact (bF zB));(case aL=>have:=amj.out;omega);intro ajP w19 ho hb hg hat;rw [← amk.out] at ho;obtain ⟨dN,HB,xA⟩:=zA3 (Kd.qL (ok:=(fun _=>True)) (by (with_reducible repeat (first|apply Kd.aK|apply Kd.aQ|apply Kd.aW));exact Kd.dX dN.out (fun _ hk=>⟨trivial,hk⟩)) hg hat) hb ho;clear ho hb hg hat)|((with_reducible refine jD (b := .append) (xs := #[.tmp 51,.tmp 58]) rfl ?_);(try (refine jZ (by rfl) ?_;dsimp only));at_builtin;refine Kd.kT (Kd.int .i64) (w0:=w) w.heap.size rfl (.tmp 51) (.tmp 58) 44 2 (.int .i64 0) 8 rfl Tryz.underlying44 vw rfl (by decide) (by omega) u8 abl (wrap64 ((wrap64 ((rd l0 nT)*16384)) - (wrap64 (pF*pR)))) [.int .i64 (wrap64 ((wrap64 ((rd l0 nT)*16384)) - (wrap64 (pF*pR))))] (fun k_=>some k_≠(ajP:Value).ownBlock) (fun _=>False) rfl rfl ?aP (fun _ hk=>hk.elim) ?aF ?aO ?aB ?aS ?aL ?_;(case aP=>exact rfl);(case aB=>exact zB);(case aF=>exact (fun k_ hk=>Kd.fresh' (Kd.kU (by (with_reducible repeat (first|apply Kd.aK|apply Kd.aQ|apply Kd.aW));exact xA.out)) k_ hk));(case aO=>exact (by (with_reducible repeat (first|apply Kd.aK|apply Kd.aQ|apply Kd.aW));exact Kd.dX dN.out (fun _ hk=>hk.2)));(case aS=>exact (bF zB));(case aL=>have:=aml.out;omega);intro asg w20 ho hb hg hat;rw [← amm.out] at ho;obtain ⟨xA,HB,amn⟩:=zA3 (Kd.qL (ok:=(fun _=>True)) (by (with_reducible repeat (first|apply Kd.aK|apply Kd.aQ|apply Kd.aW));exact Kd.dX xA.out (fun _ hk=>⟨trivial,hk⟩)) hg hat) hb ho;clear ho hb hg hat));try go_wp2_with (first|(go_at_call 144;(with_reducible refine (dR.calls k3 (wrap64 ((rd l0 nT)*16384)) pR pF _ A15.out).mono ?_);rintro e w18 ⟨rfl,hb⟩;obtain ⟨jk,dN,HB⟩:=zA3 (Kd.jK (by (with_reducible repeat (first|apply Kd.aK|apply Kd.aQ|apply Kd.aW));exact jk.out) hb) (Kd.jK (by (with_reducible repeat (first|apply Kd.aK|apply Kd.aQ|apply Kd.aW));exact dN.out) hb) (ak zB hb);(try clear hb))|((with_reducible refine jD (b := .append) (xs := #[.tmp 47,.tmp 49]) rfl ?_);(try (refine jZ (by rfl) ?_;dsimp only));at_builtin;refine Kd.kT (Kd.int .i64) (w0:=w) w.heap.size rfl (.tmp 47) (.tmp 49) 44 2 (.int .i64 0) 8 rfl Tryz.underlying44 vw rfl (by decide) (by omega) u7 yK pF [.int .i64 pF] (fun k_=>some k_≠(u8:Value).ownBlock) (fun _=>False) rfl rfl ?aP (fun _ hk=>hk.elim) ?aF ?aO ?aB ?aS ?aL ?_;(case aP=>exact rfl);(case aB=>exact zB);(case aF=>exact (fun k_ hk=>Kd.fresh' (Kd.kU (by (with_reducible repeat (first|apply Kd.aK|apply Kd.aQ|apply Kd.aW));exact dN.out)) k_ hk));(case aO=>exact (by (with_reducible repeat (first|apply Kd.aK|apply Kd.aQ|apply Kd.aW));exact jk.out));(case aS=>exact (bF zB));(case aL=>have:=amj.out;omega);intro ajP w19 ho hb hg hat;rw [← amk.out] at ho;obtain ⟨dN,HB,xA⟩:=zA3 (Kd.qL (ok:=(fun _=>True)) (by (with_reducible repeat (first|apply Kd.aK|apply Kd.aQ|apply Kd.aW));exact Kd.dX dN.out (fun _ hk=>⟨trivial,hk⟩)) hg hat) hb ho;clear ho hb hg hat)|((with_reducible refine jD (b := .append) (xs := #[.tmp 51,.tmp 58]) rfl ?_);(try (refine jZ (by rfl) ?_;dsimp only));at_builtin;refine Kd.kT (Kd.int .i64) (w0:=w) w.heap.size rfl (.tmp 51) (.tmp 58) 44 2 (.int .i64 0) 8 rfl Tryz.underlying44 vw rfl (by decide) (by omega) u8 abl (wrap64 ((wrap64 ((rd l0 nT)*16384)) - (wrap64 (pF*pR)))) [.int .i64 (wrap64 ((wrap64 ((rd l0 nT)*16384)) - (wrap64 (pF*pR))))] (fun k_=>some k_≠(ajP:Value).ownBlock) (fun _=>False) rfl rfl ?aP (fun _ hk=>hk.elim) ?aF ?aO ?aB ?aS ?aL ?_;(case aP=>exact rfl);(case aB=>exact zB);(case aF=>exact (fun k_ hk=>Kd.fresh' (Kd.kU (by (with_reducible repeat (first|apply Kd.aK|apply Kd.aQ|apply Kd.aW));exact xA.out)) k_ hk));(case aO=>exact (by (with_reducible repeat (first|apply Kd.aK|apply Kd.aQ|apply Kd.aW));exact Kd.dX dN.out (fun _ hk=>hk.2)));(case aS=>exact (bF zB));(case aL=>have:=aml.out;omega);intro asg w20 ho hb hg hat;rw [← amm.out] at ho;obtain ⟨xA,HB,amn⟩:=zA3 (Kd.qL (ok:=(fun _=>True)) (by (with_reducible repeat (first|apply Kd.aK|apply Kd.aQ|apply Kd.aW));exact Kd.dX xA.out (fun _ hk=>⟨trivial,hk⟩)) hg hat) hb ho;clear ho hb hg hat)))
               go_roundg k3
               case measure=>have:=HJ1.out;have:=HK2.out;have:=HK3.out;omega
               case rel=>exact ⟨(aoW),(asf),(wrap64 (afv - pF)),(wrap64 (nT+1)),zT,zT,H',⟨by have:=HJ1.out;have:=HK2.out;have:=HK3.out;omega⟩,⟨by (with_reducible repeat (first|apply Kd.aK|apply Kd.aQ|apply Kd.aW));exact Kd.dX xA.out (fun _ hk=>hk.2)⟩,⟨by (with_reducible repeat (first|apply Kd.aK|apply Kd.aQ|apply Kd.aW));exact amn.out⟩,⟨zB⟩⟩
              ·rw [if_neg c17] at H
               exact absurd H (by simp)
             ·rw [if_neg c16] at H
              exact absurd H (by simp)
            ·rw [if_neg c14] at H
             exact absurd H (by simp)
           ·rw [if_neg c13] at H
            exact absurd H (by simp)
          ·rw [if_neg c12] at H
           have aaX:=decide_eq_false c12
           clear c12
           have H':=aj.mk H
           clear H
           go_wp2
           repeat (go_quiet (fail);try go_wp2)
           try simp only [Act.put,List.setIfInBounds_toArray,List.set_cons_succ,List.set_cons_zero]
           go_loopg [9] k3 (fun kq v9 w'=>∃ (kZ:List Int) (kQ:List Int) (aea:Int),v9 = .int .i64 aea∧aj (aG.l2 kq kZ kQ aea=some (r1,r2))∧aj (kq≤k3)∧aj (Kd.R (Kd.int .i64) 2 w' w.heap.size (fun k_=>some k_≠(u8:Value).ownBlock) u7 kZ)∧aj (Kd.R (Kd.int .i64) 2 w' w.heap.size (fun k_=>some k_≠(u7:Value).ownBlock) u8 kQ)∧aj (Below w.heap.size w w'))
           case atStart=>exact ⟨(yK),(abl),(afv),zT,H',⟨Nat.le_refl _⟩,⟨by (with_reducible repeat (first|apply Kd.aK|apply Kd.aQ|apply Kd.aW));exact jk.out⟩,⟨by (with_reducible repeat (first|apply Kd.aK|apply Kd.aQ|apply Kd.aW));exact dN.out⟩,⟨zB⟩⟩
           case round =>
            clear H'
            try clear hx3
            obtain ⟨kZ,kQ,aea,rfl,HA,HK4,jk,dN,HB⟩:=hrel
            cases gk with
            | zero=>exact absurd HA.out (by simp [aG.l2])
            | succ k4 =>
             have H:=HA.out
             clear HA
             simp only [aG.l2] at H
             by_cases c21:aea > 0
             ·rw [if_pos c21] at H
              have ac0:=decide_eq_true c21
              clear c21
              have H':=aj.mk H
              clear H
              obtain ⟨afw,wK,aoZ⟩:=Kd.gq dN.out
              subst aoZ
              go_wp2
              repeat (go_quiet (fail);try go_wp2)
              try simp only [Act.put,List.setIfInBounds_toArray,List.set_cons_succ,List.set_cons_zero]
              go_loopg [13,68] k4 (fun kq v13 v68 w'=>∃ (fE:Int) (rY:Int),v13 = .int .i64 fE∧v68 = .int .i64 rY∧aj (aG.l3 kq kZ kQ aea fE (kQ.length:Int) rY=some (r1,r2))∧aj (kq≤k4)∧aj (Kd.R (Kd.int .i64) 2 w' w.heap.size (fun k_=>some k_≠((.slice afw kQ.length wK):Value).ownBlock) u7 kZ)∧aj (Kd.R (Kd.int .i64) 2 w' w.heap.size (fun k_=>some k_≠(u7:Value).ownBlock) (.slice afw kQ.length wK) kQ)∧aj (Below w.heap.size w w'))
              case atStart=>exact ⟨(0),(0),zT,zT,H',⟨Nat.le_refl _⟩,⟨by (with_reducible repeat (first|apply Kd.aK|apply Kd.aQ|apply Kd.aW));exact jk.out⟩,⟨by (with_reducible repeat (first|apply Kd.aK|apply Kd.aQ|apply Kd.aW));exact dN.out⟩,⟨zB⟩⟩
              case round =>
               clear H'
               try clear hx3
               obtain ⟨fE,rY,rfl,rfl,HA,HK5,jk,dN,HB⟩:=hrel
               cases gk with
               | zero=>exact absurd HA.out (by simp [aG.l3])
               | succ k5 =>
                have H:=HA.out
                clear HA
                simp only [aG.l3] at H
                by_cases c23:rY < (kQ.length:Int)
                ·rw [if_pos c23] at H
                 have amo:=decide_eq_true c23
                 clear c23
                 by_cases c24:0≤rY
                 ·rw [if_pos c24] at H
                  have auh:=decide_eq_true c24
                  clear c24
                  by_cases c25:rY < (kQ.length:Int)
                  ·rw [if_pos c25] at H
                   have azG:=decide_eq_true c25
                   clear c25
                   by_cases c26:0≤fE
                   ·rw [if_pos c26] at H
                    have aeM:=decide_eq_true c26
                    clear c26
                    by_cases c27:fE < (kQ.length:Int)
                    ·rw [if_pos c27] at H
                     have azH:=decide_eq_true c27
                     clear c27
                     by_cases c28:(rd kQ rY) > (rd kQ fE)
                     ·rw [if_pos c28] at H
                      have amq:=decide_eq_true c28
                      clear c28
                      have H':=aj.mk H
                      clear H
                      have afx:0≤(rY:Int):=of_decide_eq_true (by first|(with_reducible assumption)|assumption)
                      have afy:rY < (kQ.length:Int):=of_decide_eq_true (by first|(with_reducible assumption)|assumption)
                      obtain ⟨amr,ao0,arb⟩:=Kd.jC (Kd.dK dN.out).2.2 rY afx afy
                      cases ao0
                      replace afx:=eq_true afx
                      replace afy:=eq_true afy
                      have afz:0≤(fE:Int):=of_decide_eq_true (by first|(with_reducible assumption)|assumption)
                      have afA:fE < (kQ.length:Int):=of_decide_eq_true (by first|(with_reducible assumption)|assumption)
                      obtain ⟨ams,ao1,ard⟩:=Kd.jC (Kd.dK dN.out).2.2 fE afz afA
                      obtain rfl:amr=ams:=(by injection ao1)
                      replace afz:=eq_true afz
                      replace afA:=eq_true afA
                      go_wp2
                      repeat (go_quiet (fail);try go_wp2)
                      go_roundg k5
                      case measure=>have:=HJ1.out;have:=HK2.out;have:=HK3.out;have:=HK4.out;have:=HK5.out;omega
                      case rel=>exact ⟨(rY),(wrap64 (rY+1)),zT,zT,H',⟨by have:=HJ1.out;have:=HK2.out;have:=HK3.out;have:=HK4.out;have:=HK5.out;omega⟩,⟨by (with_reducible repeat (first|apply Kd.aK|apply Kd.aQ|apply Kd.aW));exact jk.out⟩,⟨by (with_reducible repeat (first|apply Kd.aK|apply Kd.aQ|apply Kd.aW));exact dN.out⟩,⟨zB⟩⟩
                     ·rw [if_neg c28] at H
                      have amq:=decide_eq_false c28
                      clear c28
                      have H':=aj.mk H
                      clear H
                      have afx:0≤(rY:Int):=of_decide_eq_true (by first|(with_reducible assumption)|assumption)
                      have afy:rY < (kQ.length:Int):=of_decide_eq_true (by first|(with_reducible assumption)|assumption)
                      obtain ⟨amr,ao0,arb⟩:=Kd.jC (Kd.dK dN.out).2.2 rY afx afy
                      cases ao0
                      replace afx:=eq_true afx
                      replace afy:=eq_true afy
                      have afz:0≤(fE:Int):=of_decide_eq_true (by first|(with_reducible assumption)|assumption)
                      have afA:fE < (kQ.length:Int):=of_decide_eq_true (by first|(with_reducible assumption)|assumption)
                      obtain ⟨ams,ao1,ard⟩:=Kd.jC (Kd.dK dN.out).2.2 fE afz afA
                      obtain rfl:amr=ams:=(by injection ao1)
                      replace afz:=eq_true afz
                      replace afA:=eq_true afA
                      go_wp2
                      repeat (go_quiet (fail);try go_wp2)
                      go_roundg k5
                      case measure=>have:=HJ1.out;have:=HK2.out;have:=HK3.out;have:=HK4.out;have:=HK5.out;omega
                      case rel=>exact ⟨(fE),(wrap64 (rY+1)),zT,zT,H',⟨by have:=HJ1.out;have:=HK2.out;have:=HK3.out;have:=HK4.out;have:=HK5.out;omega⟩,⟨by (with_reducible repeat (first|apply Kd.aK|apply Kd.aQ|apply Kd.aW));exact jk.out⟩,⟨by (with_reducible repeat (first|apply Kd.aK|apply Kd.aQ|apply Kd.aW));exact dN.out⟩,⟨zB⟩⟩
                    ·rw [if_neg c27] at H
                     exact absurd H (by simp)
                   ·rw [if_neg c26] at H
                    exact absurd H (by simp)
                  ·rw [if_neg c25] at H
                   exact absurd H (by simp)
                 ·rw [if_neg c24] at H
                  exact absurd H (by simp)
                ·rw [if_neg c23] at H
                 have amo:=decide_eq_false c23
                 clear c23
                 by_cases c29:0≤fE
                 ·rw [if_pos c29] at H
                  have al3:=decide_eq_true c29
                  clear c29
                  by_cases c30:fE < (kZ.length:Int)
                  ·rw [if_pos c30] at H
                   have aqv:=decide_eq_true c30
                   clear c30
                   obtain ⟨ahn,agw⟩:∃ y_:List Int,y_=(kZ.set (fE:Int).toNat (wrap64 ((rd kZ fE)+1))):=⟨_,rfl⟩
                   replace H:(if fE < (kQ.length:Int) then (aG.l2 k5 ahn (kQ.set (fE:Int).toNat (-1)) (wrap64 (aea - 1))) else (none))=some (r1,r2):=by first|(rw [agw];with_reducible exact H)|(have H2_:=(Option.bind_some _ _).symm.trans H;rw [agw];with_reducible exact H2_)|(have H2_:=(Option.bind_some _ _).symm.trans H;with_reducible exact H2_)|with_reducible exact H|(rw [agw];exact H)|exact H
                   have amu:=aj.mk agw
                   clear agw
                   by_cases c32:fE < (kQ.length:Int)
                   ·rw [if_pos c32] at H
                    have azI:=decide_eq_true c32
                    clear c32
                    obtain ⟨ajQ,agx⟩:∃ y_:List Int,y_=(kQ.set (fE:Int).toNat (-1)):=⟨_,rfl⟩
                    replace H:(aG.l2 k5 ahn ajQ (wrap64 (aea - 1)))=some (r1,r2):=by first|(rw [agx];with_reducible exact H)|(have H2_:=(Option.bind_some _ _).symm.trans H;rw [agx];with_reducible exact H2_)|(have H2_:=(Option.bind_some _ _).symm.trans H;with_reducible exact H2_)|with_reducible exact H|(rw [agx];exact H)|exact H
                    have amv:=aj.mk agx
                    clear agx
                    have H':=aj.mk H
                    clear H
                    obtain ⟨avn,uy,ao2⟩:=Kd.gq jk.out
                    subst ao2
                    have ao3:0≤(fE:Int):=of_decide_eq_true (by first|(with_reducible assumption)|assumption)
                    have ao4:fE < (kZ.length:Int):=of_decide_eq_true (by first|(with_reducible assumption)|assumption)
                    obtain ⟨azJ,avo,arf⟩:=Kd.jC (Kd.dK jk.out).2.2 fE ao3 ao4
                    cases avo
                    replace ao3:=eq_true ao3
                    replace ao4:=eq_true ao4
                    have p31:0≤(fE:Int):=of_decide_eq_true (by first|(with_reducible assumption)|assumption)
                    have q31:(fE:Int) < ((kZ.length:Int):Int):=of_decide_eq_true (by first|(with_reducible assumption)|assumption)
                    obtain ⟨pV,aAC,ash,asi,avp,aAD,asj⟩:=Kd.af0 jk.out (by omega)
                    (first|cases ash|(injection ash with ea_ en_ ec_;(first|subst ea_|(injection ea_ with ea_;subst ea_));subst ec_;clear en_))
                    have ao5:=aj.mk asi
                    have aAE:=aj.mk asj
                    clear asi avp asj
                    (first|simp only [add_plain] at arf|skip)
                    obtain ⟨axB,axC⟩:=Kd.uQ 0 jk.out (fE:Int) p31 q31
                    replace p31:=eq_true p31
                    replace q31:=eq_true q31
                    have aaP:=Kd.wS jk.out (fE:Int) (wrap64 ((rd kZ fE)+1))
                    go_wp2_with (first|((with_reducible refine wC (t:=2) (p:=87) rfl ?_);(try (rw [nN wr];generalize hq_:World.drewN wr _=wr;obtain ⟨jk,dN,HB⟩:=zA3 (Kd.abm hq_ jk.out) (Kd.abm hq_ dN.out) (abn hq_ HB.out);(try (have aaP:=Kd.wS jk.out (fE:Int) (wrap64 ((rd kZ fE)+1))))));refine uS (t:=2) (p:=87) (v := ?anz) (w1:=(wr.setCell ⟨pV,(fE:Int).toNat,none⟩ (.int .i64 (wrap64 ((rd kZ fE)+1))))) ?hg ?ho ?hn ?hr ?_;(case ho=>rfl);(case hg=>rfl);(case hn=>rfl);(case hr=>first|(go_simp;done)|(go_simp;rfl));intro w36 hw;have hg:wr.grownBy w36 (some pV):=(by rw [hw];exact aaP.2);have hp_:Kd.R (Kd.int .i64) 2 w36 w.heap.size (fun k_=>some k_≠(.slice afw kQ.length wK:Value).ownBlock) (.slice (some ⟨pV,0,none⟩) kZ.length uy) ahn:=(by rw [hw,amu.out];exact aaP.1);clear aaP;obtain ⟨jk,dN,HB⟩:=zA3 hp_ (Kd.qL (v:=(.slice (some ⟨pV,0,none⟩) kZ.length uy)) (v1:=(.slice (some ⟨pV,0,none⟩) kZ.length uy)) (ok:=(fun _=>True)) (by (with_reducible repeat (first|apply Kd.aK|apply Kd.aQ|apply Kd.aW));exact Kd.dX dN.out (fun _ hk=>⟨trivial,hk⟩)) hg (.inl rfl)) ((by rw [hw];exact qO (HB.out) ao5.out:Below w.heap.size w w36));clear hg hw hp_;have p33:0≤(fE:Int):=of_decide_eq_true (by first|(with_reducible assumption)|assumption);have q33:(fE:Int) < ((kQ.length:Int):Int):=of_decide_eq_true (by first|(with_reducible assumption)|assumption);obtain ⟨wu,ao6,ab7,aeb,ajR,asl,aec⟩:=Kd.af0 dN.out (by omega);(first|cases ab7|(injection ab7 with ea_ en_ ec_;(first|subst ea_|(injection ea_ with ea_;subst ea_));subst ec_;clear en_));have ajS:=aj.mk aeb;have asn:=aj.mk aec;clear aeb ajR aec;obtain ⟨anA,anB⟩:=Kd.uQ 0 dN.out (fE:Int) p33 q33;replace p33:=eq_true p33;replace q33:=eq_true q33;have n_:=aj.mk (Kd.dX (ok':=(fun k_=>some k_≠(.slice (some ⟨pV,0,none⟩) kZ.length uy:Value).ownBlock)) dN.out (fun k_ hk=>hk.2));clear dN;have dN:=n_;clear n_;obtain ⟨agy,agz⟩:=Kd.uQ 0 dN.out (fE:Int) (of_decide_eq_true (by first|(with_reducible assumption)|assumption)) (of_decide_eq_true (by first|(with_reducible assumption)|assumption));have yL:=Kd.wS dN.out (fE:Int) (-1))|((with_reducible refine wC (t:=2) (p:=90) rfl ?_);(try (rw [nN w36];generalize hq_:World.drewN w36 _=w36;obtain ⟨jk,dN,HB⟩:=zA3 (Kd.abm hq_ jk.out) (Kd.abm hq_ dN.out) (abn hq_ HB.out);(try (have n_:=aj.mk (Kd.dX (ok':=(fun k_=>some k_≠(.slice (some ⟨pV,0,none⟩) kZ.length uy:Value).ownBlock)) dN.out (fun k_ hk=>hk.2));clear dN;have dN:=n_;clear n_));(try (obtain ⟨agy,agz⟩:=Kd.uQ 0 dN.out (fE:Int) (of_decide_eq_true (by first|(with_reducible assumption)|assumption)) (of_decide_eq_true (by first|(with_reducible assumption)|assumption))));(try (have yL:=Kd.wS dN.out (fE:Int) (-1)))));refine uS (t:=2) (p:=90) (v := ?anC) (w1:=(w36.setCell ⟨wu,(fE:Int).toNat,none⟩ (.int .i64 (-1)))) ?hg ?ho ?hn ?hr ?_;(case ho=>rfl);(case hg=>rfl);(case hn=>rfl);(case hr=>first|(go_simp;done)|(go_simp;rfl));intro w38 hw;have hg:w36.grownBy w38 (some wu):=(by rw [hw];exact yL.2);have hp_:Kd.R (Kd.int .i64) 2 w38 w.heap.size (fun k_=>some k_≠(.slice (some ⟨pV,0,none⟩) kZ.length uy:Value).ownBlock) (.slice (some ⟨wu,0,none⟩) kQ.length wK) ajQ:=(by rw [hw,amv.out];exact yL.1);clear yL;obtain ⟨jk,dN,HB⟩:=zA3 (Kd.qL (v:=(.slice (some ⟨wu,0,none⟩) kQ.length wK)) (v1:=(.slice (some ⟨wu,0,none⟩) kQ.length wK)) (ok:=(fun _=>True)) (by (with_reducible repeat (first|apply Kd.aK|apply Kd.aQ|apply Kd.aW));exact Kd.dX jk.out (fun _ hk=>⟨trivial,hk⟩)) hg (.inl rfl)) hp_ ((by rw [hw];exact qO (HB.out) ajS.out:Below w.heap.size w w38));clear hg hw hp_))
                    repeat (go_quiet (first|((with_reducible refine wC (t:=2) (p:=87) rfl ?_);(try (rw [nN wr];generalize hq_:World.drewN wr _=wr;obtain ⟨jk,dN,HB⟩:=zA3 (Kd.abm hq_ jk.out) (Kd.abm hq_ dN.out) (abn hq_ HB.out);(try (have aaP:=Kd.wS jk.out (fE:Int) (wrap64 ((rd kZ fE)+1))))));refine uS (t:=2) (p:=87) (v := ?anz) (w1:=(wr.setCell ⟨pV,(fE:Int).toNat,none⟩ (.int .i64 (wrap64 ((rd kZ fE)+1))))) ?hg ?ho ?hn ?hr ?_;(case ho=>rfl);(case hg=>rfl);(case hn=>rfl);(case hr=>first|(go_simp;done)|(go_simp;rfl));intro w36 hw;have hg:wr.grownBy w36 (some pV):=(by rw [hw];exact aaP.2);have hp_:Kd.R (Kd.int .i64) 2 w36 w.heap.size (fun k_=>some k_≠(.slice afw kQ.length wK:Value).ownBlock) (.slice (some ⟨pV,0,none⟩) kZ.length uy) ahn:=(by rw [hw,amu.out];exact aaP.1);clear aaP;obtain ⟨jk,dN,HB⟩:=zA3 hp_ (Kd.qL (v:=(.slice (some ⟨pV,0,none⟩) kZ.length uy)) (v1:=(.slice (some ⟨pV,0,none⟩) kZ.length uy)) (ok:=(fun _=>True)) (by (with_reducible repeat (first|apply Kd.aK|apply Kd.aQ|apply Kd.aW));exact Kd.dX dN.out (fun _ hk=>⟨trivial,hk⟩)) hg (.inl rfl)) ((by rw [hw];exact qO (HB.out) ao5.out:Below w.heap.size w w36));clear hg hw hp_;have p33:0≤(fE:Int):=of_decide_eq_true (by first|(with_reducible assumption)|assumption);have q33:(fE:Int) < ((kQ.length:Int):Int):=of_decide_eq_true (by first|(with_reducible assumption)|assumption);obtain ⟨wu,ao6,ab7,aeb,ajR,asl,aec⟩:=Kd.af0 dN.out (by omega);(first|cases ab7|(injection ab7 with ea_ en_ ec_;(first|subst ea_|(injection ea_ with ea_;subst ea_));subst ec_;clear en_));have ajS:=aj.mk aeb;have asn:=aj.mk aec;clear aeb ajR aec;obtain ⟨anA,anB⟩:=Kd.uQ 0 dN.out (fE:Int) p33 q33;replace p33:=eq_true p33;replace q33:=eq_true q33;have n_:=aj.mk (Kd.dX (ok':=(fun k_=>some k_≠(.slice (some ⟨pV,0,none⟩) kZ.length uy:Value).ownBlock)) dN.out (fun k_ hk=>hk.2));clear dN;have dN:=n_;clear n_;obtain ⟨agy,agz⟩:=Kd.uQ 0 dN.out (fE:Int) (of_decide_eq_true (by first|(with_reducible assumption)|assumption)) (of_decide_eq_true (by first|(with_reducible assumption)|assumption));have yL:=Kd.wS dN.out (fE:Int) (-1))|((with_reducible refine wC (t:=2) (p:=90) rfl ?_);(try (rw [nN w36];generalize hq_:World.drewN w36 _=w36;obtain ⟨jk,dN,HB⟩:=zA3 (Kd.abm hq_ jk.out) (Kd.abm hq_ dN.out) (abn hq_ HB.out);(try (have n_:=aj.mk (Kd.dX (ok':=(fun k_=>some k_≠(.slice (some ⟨pV,0,none⟩) kZ.length uy:Value).ownBlock)) dN.out (fun k_ hk=>hk.2));clear dN;have dN:=n_;clear n_));(try (obtain ⟨agy,agz⟩:=Kd.uQ 0 dN.out (fE:Int) (of_decide_eq_true (by first|(with_reducible assumption)|assumption)) (of_decide_eq_true (by first|(with_reducible assumption)|assumption))));(try (have yL:=Kd.wS dN.out (fE:Int) (-1)))));refine uS (t:=2) (p:=90) (v := ?anC) (w1:=(w36.setCell ⟨wu,(fE:Int).toNat,none⟩ (.int .i64 (-1)))) ?hg ?ho ?hn ?hr ?_;(case ho=>rfl);(case hg=>rfl);(case hn=>rfl);(case hr=>first|(go_simp;done)|(go_simp;rfl));intro w38 hw;have hg:w36.grownBy w38 (some wu):=(by rw [hw];exact yL.2);have hp_:Kd.R (Kd.int .i64) 2 w38 w.heap.size (fun k_=>some k_≠(.slice (some ⟨pV,0,none⟩) kZ.length uy:Value).ownBlock) (.slice (some ⟨wu,0,none⟩) kQ.length wK) ajQ:=(by rw [hw,amv.out];exact yL.1);clear yL;obtain ⟨jk,dN,HB⟩:=zA3 (Kd.qL (v:=(.slice (some ⟨wu,0,none⟩) kQ.length wK)) (v1:=(.slice (some ⟨wu,0,none⟩) kQ.length wK)) (ok:=(fun _=>True)) (by (with_reducible repeat (first|apply Kd.aK|apply Kd.aQ|apply Kd.aW));exact Kd.dX jk.out (fun _ hk=>⟨trivial,hk⟩)) hg (.inl rfl)) hp_ ((by rw [hw];exact qO (HB.out) ajS.out:Below w.heap.size w w38));clear hg hw hp_));try go_wp2_with (first|((with_reducible refine wC (t:=2) (p:=87) rfl ?_);(try (rw [nN wr];generalize hq_:World.drewN wr _=wr;obtain ⟨jk,dN,HB⟩:=zA3 (Kd.abm hq_ jk.out) (Kd.abm hq_ dN.out) (abn hq_ HB.out);(try (have aaP:=Kd.wS jk.out (fE:Int) (wrap64 ((rd kZ fE)+1))))));refine uS (t:=2) (p:=87) (v := ?anz) (w1:=(wr.setCell ⟨pV,(fE:Int).toNat,none⟩ (.int .i64 (wrap64 ((rd kZ fE)+1))))) ?hg ?ho ?hn ?hr ?_;(case ho=>rfl);(case hg=>rfl);(case hn=>rfl);(case hr=>first|(go_simp;done)|(go_simp;rfl));intro w36 hw;have hg:wr.grownBy w36 (some pV):=(by rw [hw];exact aaP.2);have hp_:Kd.R (Kd.int .i64) 2 w36 w.heap.size (fun k_=>some k_≠(.slice afw kQ.length wK:Value).ownBlock) (.slice (some ⟨pV,0,none⟩) kZ.length uy) ahn:=(by rw [hw,amu.out];exact aaP.1);clear aaP;obtain ⟨jk,dN,HB⟩:=zA3 hp_ (Kd.qL (v:=(.slice (some ⟨pV,0,none⟩) kZ.length uy)) (v1:=(.slice (some ⟨pV,0,none⟩) kZ.length uy)) (ok:=(fun _=>True)) (by (with_reducible repeat (first|apply Kd.aK|apply Kd.aQ|apply Kd.aW));exact Kd.dX dN.out (fun _ hk=>⟨trivial,hk⟩)) hg (.inl rfl)) ((by rw [hw];exact qO (HB.out) ao5.out:Below w.heap.size w w36));clear hg hw hp_;have p33:0≤(fE:Int):=of_decide_eq_true (by first|(with_reducible assumption)|assumption);have q33:(fE:Int) < ((kQ.length:Int):Int):=of_decide_eq_true (by first|(with_reducible assumption)|assumption);obtain ⟨wu,ao6,ab7,aeb,ajR,asl,aec⟩:=Kd.af0 dN.out (by omega);(first|cases ab7|(injection ab7 with ea_ en_ ec_;(first|subst ea_|(injection ea_ with ea_;subst ea_));subst ec_;clear en_));have ajS:=aj.mk aeb;have asn:=aj.mk aec;clear aeb ajR aec;obtain ⟨anA,anB⟩:=Kd.uQ 0 dN.out (fE:Int) p33 q33;replace p33:=eq_true p33;replace q33:=eq_true q33;have n_:=aj.mk (Kd.dX (ok':=(fun k_=>some k_≠(.slice (some ⟨pV,0,none⟩) kZ.length uy:Value).ownBlock)) dN.out (fun k_ hk=>hk.2));clear dN;have dN:=n_;clear n_;obtain ⟨agy,agz⟩:=Kd.uQ 0 dN.out (fE:Int) (of_decide_eq_true (by first|(with_reducible assumption)|assumption)) (of_decide_eq_true (by first|(with_reducible assumption)|assumption));have yL:=Kd.wS dN.out (fE:Int) (-1))|((with_reducible refine wC (t:=2) (p:=90) rfl ?_);(try (rw [nN w36];generalize hq_:World.drewN w36 _=w36;obtain ⟨jk,dN,HB⟩:=zA3 (Kd.abm hq_ jk.out) (Kd.abm hq_ dN.out) (abn hq_ HB.out);(try (have n_:=aj.mk (Kd.dX (ok':=(fun k_=>some k_≠(.slice (some ⟨pV,0,none⟩) kZ.length uy:Value).ownBlock)) dN.out (fun k_ hk=>hk.2));clear dN;have dN:=n_;clear n_));(try (obtain ⟨agy,agz⟩:=Kd.uQ 0 dN.out (fE:Int) (of_decide_eq_true (by first|(with_reducible assumption)|assumption)) (of_decide_eq_true (by first|(with_reducible assumption)|assumption))));(try (have yL:=Kd.wS dN.out (fE:Int) (-1)))));refine uS (t:=2) (p:=90) (v := ?anC) (w1:=(w36.setCell ⟨wu,(fE:Int).toNat,none⟩ (.int .i64 (-1)))) ?hg ?ho ?hn ?hr ?_;(case ho=>rfl);(case hg=>rfl);(case hn=>rfl);(case hr=>first|(go_simp;done)|(go_simp;rfl));intro w38 hw;have hg:w36.grownBy w38 (some wu):=(by rw [hw];exact yL.2);have hp_:Kd.R (Kd.int .i64) 2 w38 w.heap.size (fun k_=>some k_≠(.slice (some ⟨pV,0,none⟩) kZ.length uy:Value).ownBlock) (.slice (some ⟨wu,0,none⟩) kQ.length wK) ajQ:=(by rw [hw,amv.out];exact yL.1);clear yL;obtain ⟨jk,dN,HB⟩:=zA3 (Kd.qL (v:=(.slice (some ⟨wu,0,none⟩) kQ.length wK)) (v1:=(.slice (some ⟨wu,0,none⟩) kQ.length wK)) (ok:=(fun _=>True)) (by (with_reducible repeat (first|apply Kd.aK|apply Kd.aQ|apply Kd.aW));exact Kd.dX jk.out (fun _ hk=>⟨trivial,hk⟩)) hg (.inl rfl)) hp_ ((by rw [hw];exact qO (HB.out) ajS.out:Below w.heap.size w w38));clear hg hw hp_)))
                    go_roundg k5
                    case measure=>have:=HJ1.out;have:=HK2.out;have:=HK3.out;have:=HK4.out;have:=HK5.out;omega
                    case rel=>exact ⟨(ahn),(ajQ),(wrap64 (aea - 1)),zT,H',⟨by have:=HJ1.out;have:=HK2.out;have:=HK3.out;have:=HK4.out;have:=HK5.out;omega⟩,⟨by (with_reducible repeat (first|apply Kd.aK|apply Kd.aQ|apply Kd.aW));exact Kd.dX jk.out (fun _ hk=>hk.2)⟩,⟨by (with_reducible repeat (first|apply Kd.aK|apply Kd.aQ|apply Kd.aW));exact dN.out⟩,⟨zB⟩⟩
                   ·rw [if_neg c32] at H
                    exact absurd H (by simp)
                  ·rw [if_neg c30] at H
                   exact absurd H (by simp)
                 ·rw [if_neg c29] at H
                  exact absurd H (by simp)
             ·rw [if_neg c21] at H
              have ac0:=decide_eq_false c21
              clear c21
              simp only [Option.some.injEq,Prod.mk.injEq] at H
              obtain ⟨rfl,rfl⟩:=H
              go_wp2
              repeat (go_quiet (fail);try go_wp2)
              go_ret2
              exact ⟨_,zS,by (with_reducible repeat (first|apply Kd.aK|apply Kd.aQ|apply Kd.aW));exact Kd.dX jk.out (fun _ hk=>trivial),zB⟩
end Go.Proofs.YtpondkggmcmpfaaGreatDoor.QA
namespace Go.Proofs.YtpondkggmcmpfaaGreatDoor.QA
open Go.Proofs.YtpondkggmcmpfaaGreatDoor.T
open Go.RowKit Go.Proofs.YtpondkggmcmpfaaGreatDoorW.PrintWords Go.Proofs.YtpondkggmcmpfaaGreatDoorW.PrintLast Go.Proofs.YtpondkggmcmpfaaGreatDoorW.PrintMore
attribute [local go_sem] eP dV dW fM fO
set_option linter.unusedVariables false
set_option linter.unusedSimpArgs false
mutual
def bU.j0:Nat→Int→Int→Int→Bool→Option ((List (lZ)) × Int)
 | 0,_,_,_,_=>none
 | k+1,x0,x1,x2,x29=>if x29=true then (some (([]:List (lZ)),6)) else (bU.l0 k x0 x1 x2 ([]:List (lZ)) x2 0)
def bU.l0:Nat→Int→Int→Int→List (lZ)→Int→Int→Option ((List (lZ)) × Int)
 | 0,_,_,_,_,_,_=>none
 | k+1,x0,x1,x2,x8,x30,x31=>if x31 < x30 then ((bQ.f k x0 x1 x2 x31).bind fun aqx=>((aG.f k aqx.2).bind fun amw=>(if amw.2=0 then (if x8.length < 4398046511104 then (bU.l0 k x0 x1 x2 (x8 ++ [(⟨aqx.1,amw.1⟩:lZ)]) x30 (wrap64 (x31+1))) else (none)) else (some (([]:List (lZ)),amw.2))))) else (some (x8,0))
end
def bU.f (k:Nat) (a0 a1 a2:Int):Option ((List (lZ)) × Int):=if a0 < 0 then (bU.j0 k a0 a1 a2 true) else (if a0 > 2 then (bU.j0 k a0 a1 a2 true) else ((iE.f a1).bind fun ao7=>(if ao7=true then ((iE.f a2).bind fun amx=>(bU.j0 k a0 a1 a2 (!amx))) else (bU.j0 k a0 a1 a2 true))))
set_option maxHeartbeats 8000000 in
set_option maxRecDepth 100000 in
theorem bU.calls (k:Nat) (a0 a1 a2:Int) (r1:List (lZ)) (r2:Int) (w:World) (h:bU.f k a0 a1 a2=some (r1,r2)) :
  Calls Tryz.prog 93 #[.int .i64 a0,.int .i64 a1,.int .i64 a2] w fun e w'=>∃ v0_:Value,e = .returned (.tuple #[v0_,.int .i64 r2])∧Kd.S aaI 138 w' w.heap.size (fun _=>True) v0_ r1∧Below w.heap.size w w':=by
 have azK:=Tryz.underlying138
 have HB:=aj.mk (Below.refl w.heap.size w)
 have H:=h
 clear h
 unfold bU.f at H
 have HC4:=aj.mk H
 clear H
 go_enter Tryz.func93,Tryz.ntmps93
 go_upto_region 1 with (fail)
 go_cut [29] (fun v29 wc=>∃ (kq:Nat) (aiU:Bool),v29 = .bool aiU∧aj (bU.j0 kq a0 a1 a2 aiU=some (r1,r2))∧aj (kq≤k)∧aj (Below w.heap.size w wc))
 case first =>
  have H:=HC4.out
  clear HC4
  by_cases c5:a0 < 0
  ·rw [if_pos c5] at H
   have iJ:=decide_eq_true c5
   clear c5
   (first|rw [iJ]|(simp only [bW,dh];rw [iJ])|skip)
   have H':=aj.mk H
   clear H
   go_wp2
   go_meet
   case rel=>exact ⟨_,(true),zT,H',⟨by first|omega|exact Nat.le_refl _⟩,⟨zB⟩⟩
  ·rw [if_neg c5] at H
   have iJ:=decide_eq_false c5
   clear c5
   (first|rw [iJ]|(simp only [bW,dh];rw [iJ])|skip)
   by_cases c6:a0 > 2
   ·rw [if_pos c6] at H
    have ig:=decide_eq_true c6
    clear c6
    have H':=aj.mk H
    clear H
    go_wp2
    go_meet
    case rel=>exact ⟨_,(true),zT,H',⟨by first|omega|exact Nat.le_refl _⟩,⟨zB⟩⟩
   ·rw [if_neg c6] at H
    have ig:=decide_eq_false c6
    clear c6
    replace H:=zO H
    obtain ⟨ao7,A7,H⟩:=H
    try dsimp only at H
    by_cases c8:ao7=true
    ·subst c8
     rw [if_pos rfl] at H;try dsimp only at H
     replace H:=zO H
     obtain ⟨amx,A9,H⟩:=H
     try dsimp only at H
     have H':=aj.mk H
     clear H
     go_wp2_with (first|(go_at_call 113;(with_reducible refine (iE.calls a1 true _ A7.out).mono ?_);rintro e w' ⟨rfl,⟨nd,rfl⟩⟩)|(go_at_call 113;(with_reducible refine (iE.calls a2 amx _ A9.out).mono ?_);rintro e w' ⟨rfl,⟨nd,rfl⟩⟩))
     go_meet
     case rel=>exact ⟨_,(!amx),zT,H',⟨by first|omega|exact Nat.le_refl _⟩,⟨zB⟩⟩
    ·replace c8:=Bool.eq_false_iff.mpr c8
     subst c8
     rw [if_neg (show ¬ (false=true) by decide)] at H;try dsimp only at H
     have H':=aj.mk H
     clear H
     go_wp2_with (first|(go_at_call 113;(with_reducible refine (iE.calls a1 false _ A7.out).mono ?_);rintro e w' ⟨rfl,⟨nd,rfl⟩⟩))
     go_meet
     case rel=>exact ⟨_,(true),zT,H',⟨by first|omega|exact Nat.le_refl _⟩,⟨zB⟩⟩
 case rest =>
  clear HC4
  obtain ⟨kq,aiU,rfl,HA,HJ3,HB⟩:=hcut
  cases kq with
  | zero=>exact absurd HA.out (by simp [bU.j0])
  | succ kj3 =>
   have H:=HA.out
   clear HA
   simp only [bU.j0] at H
   by_cases c10:aiU=true
   ·subst c10
    rw [if_pos rfl] at H;try dsimp only at H
    simp only [Option.some.injEq,Prod.mk.injEq] at H
    obtain ⟨rfl,rfl⟩:=H
    go_wp2
    go_ret2
    exact ⟨_,zS,by first|exact Kd.oz _ _ _ _ _|exact Kd.oJ _ _ _ _ _|exact Kd.nG _ _ _ _ _|exact Kd.oK _ _ _ _ _|exact Kd.jY _ _ _ _ _,zB⟩
   ·replace c10:=Bool.eq_false_iff.mpr c10
    subst c10
    rw [if_neg (show ¬ (false=true) by decide)] at H;try dsimp only at H
    have H':=aj.mk H
    clear H
    go_wp2
    go_loopg [8,31] kj3 (fun kq v8 v31 w'=>∃ (kP:List (lZ)) (aad:Int),v31 = .int .i64 aad∧aj (bU.l0 kq a0 a1 a2 kP a2 aad=some (r1,r2))∧aj (kq≤kj3)∧aj (Kd.S aaI 138 w' w.heap.size (fun _=>True) v8 kP)∧aj (Below w.heap.size w w'))
    case atStart=>exact ⟨(([]:List (lZ))),(0),zT,H',⟨Nat.le_refl _⟩,⟨by first|exact Kd.oz _ _ _ _ _|exact Kd.oJ _ _ _ _ _|exact Kd.nG _ _ _ _ _|exact Kd.oK _ _ _ _ _|exact Kd.jY _ _ _ _ _⟩,⟨zB⟩⟩
    case round =>
     clear H'
     obtain ⟨kP,aad,rfl,HA,HK2,dN,HB⟩:=hrel
     cases gk with
     | zero=>exact absurd HA.out (by simp [bU.l0])
     | succ k2 =>
      have H:=HA.out
      clear HA
      simp only [bU.l0] at H
      by_cases c11:aad < a2
      ·rw [if_pos c11] at H
       have iL:=decide_eq_true c11
       clear c11
       replace H:=zO H
       obtain ⟨⟨aho,ac1⟩,A12,H⟩:=H
       try dsimp only at H
       replace H:=zO H
       obtain ⟨⟨afB,afC⟩,A13,H⟩:=H
       try dsimp only at H
       by_cases c14:afC=0
       ·rw [if_pos c14] at H
        have abN:(afC == 0)=true:=beq_iff_eq.mpr c14
        have amy:(afC != 0)=false:=bne_eq_false_iff_eq.mpr c14
        clear c14
        by_cases c15:kP.length < 4398046511104
        ·rw [if_pos c15] at H
         have amf:=aj.mk c15
         clear c15
         obtain ⟨aso,agA⟩:∃ y_:List (lZ),y_=(kP ++ [(⟨aho,afB⟩:lZ)]):=⟨_,rfl⟩
         replace H:(bU.l0 k2 a0 a1 a2 aso a2 (wrap64 (aad+1)))=some (r1,r2):=by first|(rw [agA];with_reducible exact H)|(have H2_:=(Option.bind_some _ _).symm.trans H;rw [agA];with_reducible exact H2_)|(have H2_:=(Option.bind_some _ _).symm.trans H;with_reducible exact H2_)|with_reducible exact H|(rw [agA];exact H)|exact H
         have aui:=aj.mk agA
         clear agA
         have H':=aj.mk H
         clear H
         go_wp2_with (first|((with_reducible refine aA (f:=114) rfl ?_);refine aH (some 39) rfl rfl Tryz.func114 (by kernel_rfl) rfl #[.int .i64 a0,.int .i64 a1,.int .i64 a2,.int .i64 aad] rfl zL ?_;(with_reducible refine (bQ.calls k2 a0 a1 a2 aad aho ac1 _ A12.out).mono ?_);rintro e w16 ⟨avq,rfl,ho0,hb⟩;refine ⟨_,rfl,?_⟩;obtain ⟨dN,rZ,HB⟩:=zA3 (Kd.acC (by (with_reducible repeat (first|apply Kd.zF|apply Kd.zH|apply Kd.abo));exact dN.out) (Kd.iY ho0) hb) (Kd.fU ho0 (bF zB)) (ak zB hb);(try clear hb);(try clear ho0);obtain ⟨amA,amB,avr⟩:=Kd.gq rZ.out;subst avr)|((with_reducible refine aA (f:=115) rfl ?_);refine aH (some 44) rfl rfl Tryz.func115 (by kernel_rfl) rfl #[.slice amA ac1.length amB] rfl zL ?_;(with_reducible refine (aG.calls k2 _ _ ac1 afB afC _ ?iG ?iH A13.out).mono ?_);(case iG=>repeat (first|exact (Kd.dK rZ.out).2.2|(with_reducible refine Kd.jd ?_ _)|(with_reducible refine Kd.jB ?_ _)|(with_reducible refine Kd.kC ?_)));(case iH=>exact (Kd.dK rZ.out).2.1);rintro e w18 ⟨avs,rfl,ho0,hb⟩;refine ⟨_,rfl,?_⟩;obtain ⟨dN,rZ,aiV,HB⟩:=zA4 (Kd.acC (by (with_reducible repeat (first|apply Kd.zF|apply Kd.zH|apply Kd.abo));exact dN.out) (Kd.iY ho0) hb) (Kd.iC (by (with_reducible repeat (first|apply Kd.aK|apply Kd.aQ|apply Kd.aW));exact rZ.out) (Kd.iY ho0) hb) (Kd.fU (Kd.jL ho0 (Kd.kU (by (with_reducible repeat (first|apply Kd.aK|apply Kd.aQ|apply Kd.aW));exact rZ.out))) (bF zB)) (ak zB hb);(try clear hb);(try clear ho0);obtain ⟨ajT,ajU,ajV⟩:=Kd.gq aiV.out;subst ajV)|((with_reducible refine jD (b := .append) (xs := #[.tmp 50,.tmp 54]) rfl ?_);at_builtin;refine Kd.anW aaI (w0:=w) w.heap.size rfl (.tmp 50) (.tmp 54) 39 138 (.agg #[(.int .i64 0),(.slice none 0 0)]) 32 rfl Tryz.underlying39 aqV rfl (by decide) (by omega) u8 kP (⟨aho,afB⟩:lZ) [.int .i64 aho,.slice ajT afB.length ajU] (fun k_=>some k_≠(.slice amA ac1.length amB:Value).ownBlock) (fun k_=>some k_=(.slice ajT afB.length ajU:Value).ownBlock) rfl rfl ?aP (fun k_ hk_=>((Kd.dX (ok':=fun k_=>((fun k_=>some k_≠(.slice amA ac1.length amB:Value).ownBlock)) k_∧some k_≠(u8:Value).ownBlock) (Kd.ai8 (aiV.out) (Kd.ag8 dN.out) (by decide)) (fun k_ hk=>⟨hk.1.2,hk.2⟩))).1 k_ hk_.symm) ?aF ?aO ?aB ?aS ?aL ?_;(case aP=>exact ajf _ _ _ (⟨aho,afB⟩:lZ) (Kd.dX (Kd.aqR rfl (Kd.dX (ok':=fun k_=>((fun k_=>some k_≠(.slice amA ac1.length amB:Value).ownBlock)) k_∧some k_≠(u8:Value).ownBlock) (Kd.ai8 (aiV.out) (Kd.ag8 dN.out) (by decide)) (fun k_ hk=>⟨hk.1.2,hk.2⟩))) (fun _ h_=>h_)));(case aB=>exact zB);(case aF=>exact (fun k_ hk=>Kd.fresh' (Kd.kU (by (with_reducible repeat (first|apply Kd.aK|apply Kd.aQ|apply Kd.aW));exact rZ.out)) k_ hk));(case aO=>exact (by (with_reducible repeat (first|apply Kd.zF|apply Kd.zH|apply Kd.abo));exact Kd.anf dN.out (fun k_ hk=>⟨hk.1.2,fun e_=>hk.2 e_⟩)));(case aS=>exact (bF zB));(case aL=>have:=amf.out;omega);intro aAF w20 ho hb hg hat;rw [← aui.out] at ho;obtain ⟨rZ,HB,auj⟩:=zA3 (Kd.aqQ (by (with_reducible repeat (first|apply Kd.aK|apply Kd.aQ|apply Kd.aW));exact rZ.out) (Kd.ag8 (by (with_reducible repeat (first|apply Kd.zF|apply Kd.zH|apply Kd.abo));exact dN.out)) (by decide) hg) hb ho;clear ho hb hg hat))
         go_roundg k2
         case measure=>have:=HJ3.out;have:=HK2.out;omega
         case rel=>exact ⟨(aso),(wrap64 (aad+1)),zT,H',⟨by have:=HJ3.out;have:=HK2.out;omega⟩,⟨by (with_reducible repeat (first|apply Kd.zF|apply Kd.zH|apply Kd.abo));exact Kd.anf auj.out (fun _ hk=>trivial)⟩,⟨zB⟩⟩
        ·rw [if_neg c15] at H
         exact absurd H (by simp)
       ·rw [if_neg c14] at H
        have abN:(afC == 0)=false:=beq_eq_false_iff_ne.mpr c14
        have amy:(afC != 0)=true:=bne_iff_ne.mpr c14
        simp only [Option.some.injEq,Prod.mk.injEq] at H
        obtain ⟨rfl,rfl⟩:=H
        go_wp2_with (first|((with_reducible refine aA (f:=114) rfl ?_);refine aH (some 39) rfl rfl Tryz.func114 (by kernel_rfl) rfl #[.int .i64 a0,.int .i64 a1,.int .i64 a2,.int .i64 aad] rfl zL ?_;(with_reducible refine (bQ.calls k2 a0 a1 a2 aad aho ac1 _ A12.out).mono ?_);rintro e w21 ⟨avq,rfl,ho0,hb⟩;refine ⟨_,rfl,?_⟩;obtain ⟨dN,rZ,HB⟩:=zA3 (Kd.acC (by (with_reducible repeat (first|apply Kd.zF|apply Kd.zH|apply Kd.abo));exact dN.out) (Kd.iY ho0) hb) (Kd.fU ho0 (bF zB)) (ak zB hb);(try clear hb);(try clear ho0);obtain ⟨afw,wK,aoZ⟩:=Kd.gq rZ.out;subst aoZ)|((with_reducible refine aA (f:=115) rfl ?_);refine aH (some 44) rfl rfl Tryz.func115 (by kernel_rfl) rfl #[.slice afw ac1.length wK] rfl zL ?_;(with_reducible refine (aG.calls k2 _ _ ac1 afB afC _ ?iG ?iH A13.out).mono ?_);(case iG=>repeat (first|exact (Kd.dK rZ.out).2.2|(with_reducible refine Kd.jd ?_ _)|(with_reducible refine Kd.jB ?_ _)|(with_reducible refine Kd.kC ?_)));(case iH=>exact (Kd.dK rZ.out).2.1);rintro e w23 ⟨avs,rfl,ho0,hb⟩;refine ⟨_,rfl,?_⟩;obtain ⟨dN,rZ,aiV,HB⟩:=zA4 (Kd.acC (by (with_reducible repeat (first|apply Kd.zF|apply Kd.zH|apply Kd.abo));exact dN.out) (Kd.iY ho0) hb) (Kd.iC (by (with_reducible repeat (first|apply Kd.aK|apply Kd.aQ|apply Kd.aW));exact rZ.out) (Kd.iY ho0) hb) (Kd.fU (Kd.jL ho0 (Kd.kU (by (with_reducible repeat (first|apply Kd.aK|apply Kd.aQ|apply Kd.aW));exact rZ.out))) (bF zB)) (ak zB hb);(try clear hb);(try clear ho0)))
        go_ret2
        exact ⟨_,zS,by first|exact Kd.oz _ _ _ _ _|exact Kd.oJ _ _ _ _ _|exact Kd.nG _ _ _ _ _|exact Kd.oK _ _ _ _ _|exact Kd.jY _ _ _ _ _,zB⟩
      ·rw [if_neg c11] at H
       have iL:=decide_eq_false c11
       clear c11
       simp only [Option.some.injEq,Prod.mk.injEq] at H
       obtain ⟨rfl,rfl⟩:=H
       go_wp2
       go_ret2
       exact ⟨_,zS,by (with_reducible repeat (first|apply Kd.zF|apply Kd.zH|apply Kd.abo));exact dN.out,zB⟩
end Go.Proofs.YtpondkggmcmpfaaGreatDoor.QA
namespace Go.Proofs.YtpondkggmcmpfaaGreatDoor.QA
open Go.Proofs.YtpondkggmcmpfaaGreatDoor.T
open Go.RowKit Go.Proofs.YtpondkggmcmpfaaGreatDoorW.PrintWords Go.Proofs.YtpondkggmcmpfaaGreatDoorW.PrintLast Go.Proofs.YtpondkggmcmpfaaGreatDoorW.PrintMore
attribute [local go_sem] eP dV dW fM fO
set_option linter.unusedVariables false
set_option linter.unusedSimpArgs false
mutual
def dQ.j0:Nat→Int→Option (Int)
 | 0,_=>none
 | k+1,x0=>(dR.f k x0 762123384786).bind fun aaQ=>(dQ.l0 k aaQ (wrap64 (x0 - (wrap64 (aaQ*762123384786)))) 1099511627776 0 1099511627776 1)
def dQ.l0:Nat→Int→Int→Int→Int→Int→Int→Option (Int)
 | 0,_,_,_,_,_,_=>none
 | k+1,x3,x4,x5,x6,x7,x8=>if x8≤16 then ((aX.f k x7 x4 (wrap64 (x8*1099511627776))).bind fun abp=>(if (Int.tmod x8 2)=1 then (dQ.l0 k x3 x4 x5 (wrap64 (x6+abp)) abp (wrap64 (x8+1))) else (dQ.l0 k x3 x4 (wrap64 (x5+abp)) x6 abp (wrap64 (x8+1))))) else ((aJ.f k (wrap64 (x5 - x6)) x3).bind fun ao8=>(some ao8))
end
def dQ.f (k:Nat) (a0:Int):Option (Int):=if a0 < 0 then (dQ.j0 k 0) else (dQ.j0 k a0)
set_option maxHeartbeats 8000000 in
set_option maxRecDepth 100000 in
theorem dQ.calls (k:Nat) (a0 r:Int) (w:World) (h:dQ.f k a0=some r) :
  Calls Tryz.prog 145 #[.int .i64 a0] w fun e w'=>e = .returned (.int .i64 r)∧Below w.heap.size w w':=by
 have HB:=aj.mk (Below.refl w.heap.size w)
 have H:=h
 clear h
 unfold dQ.f at H
 have HC2:=aj.mk H
 clear H
 go_enter Tryz.func145,Tryz.ntmps145
 go_upto_if 10 with (fail)
 go_cut [0] (fun v0 wc=>∃ (kq:Nat) (ab8:Int),v0 = .int .i64 ab8∧aj (dQ.j0 kq ab8=some r)∧aj (kq≤k)∧aj (Below w.heap.size w wc))
 case first =>
  have H:=HC2.out
  clear HC2
  by_cases c3:a0 < 0
  ·rw [if_pos c3] at H
   have fK:=decide_eq_true c3
   clear c3
   (first|rw [fK]|(simp only [bW,dh];rw [fK])|skip)
   have H':=aj.mk H
   clear H
   go_wp2
   go_meet
   case rel=>exact ⟨_,(0),zT,H',⟨by first|omega|exact Nat.le_refl _⟩,⟨zB⟩⟩
  ·rw [if_neg c3] at H
   have fK:=decide_eq_false c3
   clear c3
   (first|rw [fK]|(simp only [bW,dh];rw [fK])|skip)
   have H':=aj.mk H
   clear H
   go_wp2
   go_meet
   case rel=>exact ⟨_,(a0),zT,H',⟨by first|omega|exact Nat.le_refl _⟩,⟨zB⟩⟩
 case rest =>
  clear HC2
  obtain ⟨kq,ab8,rfl,HA,HJ1,HB⟩:=hcut
  cases kq with
  | zero=>exact absurd HA.out (by simp [dQ.j0])
  | succ kj1 =>
   have H:=HA.out
   clear HA
   simp only [dQ.j0] at H
   replace H:=zO H
   obtain ⟨aaQ,A4,H⟩:=H
   try dsimp only at H
   have H':=aj.mk H
   clear H
   go_wp2_with (first|((with_reducible refine aA (f:=144) rfl ?_);refine aH (some 12) rfl rfl Tryz.func144 (by kernel_rfl) rfl #[.int .i64 ab8,.int .i64 762123384786] rfl zL ?_;(with_reducible refine (dR.calls kj1 ab8 762123384786 aaQ _ A4.out).mono ?_);rintro e w5 ⟨rfl,hb⟩;refine ⟨_,rfl,?_⟩;replace HB:=aj.mk (ak zB hb);(try clear hb)))
   go_loopg [5,6,7,8] kj1 (fun kq v5 v6 v7 v8 w'=>∃ (lQ:Int) (wL:Int) (zA:Int) (kP:Int),v5 = .int .i64 lQ∧v6 = .int .i64 wL∧v7 = .int .i64 zA∧v8 = .int .i64 kP∧aj (dQ.l0 kq aaQ (wrap64 (ab8 - (wrap64 (aaQ*762123384786)))) lQ wL zA kP=some r)∧aj (kq≤kj1)∧aj (Below w.heap.size w w'))
   case atStart=>exact ⟨(1099511627776),(0),(1099511627776),(1),zT,zT,zT,zT,H',⟨Nat.le_refl _⟩,⟨zB⟩⟩
   case round =>
    clear H'
    obtain ⟨lQ,wL,zA,kP,rfl,rfl,rfl,rfl,HA,HK2,HB⟩:=hrel
    cases gk with
    | zero=>exact absurd HA.out (by simp [dQ.l0])
    | succ k2 =>
     have H:=HA.out
     clear HA
     simp only [dQ.l0] at H
     by_cases c6:kP≤16
     ·rw [if_pos c6] at H
      have ig:=decide_eq_true c6
      clear c6
      replace H:=zO H
      obtain ⟨abp,A7,H⟩:=H
      try dsimp only at H
      by_cases c8:(Int.tmod kP 2)=1
      ·rw [if_pos c8] at H
       have vN:((Int.tmod kP 2) == 1)=true:=beq_iff_eq.mpr c8
       have acG:((Int.tmod kP 2) != 1)=false:=bne_eq_false_iff_eq.mpr c8
       clear c8
       have H':=aj.mk H
       clear H
       go_wp2_with (first|((with_reducible refine aA (f:=118) rfl ?_);refine aH (some 25) rfl rfl Tryz.func118 (by kernel_rfl) rfl #[.int .i64 zA,.int .i64 (wrap64 (ab8 - (wrap64 (aaQ*762123384786)))),.int .i64 (wrap64 (kP*1099511627776))] rfl zL ?_;(with_reducible refine (aX.calls k2 zA (wrap64 (ab8 - (wrap64 (aaQ*762123384786)))) (wrap64 (kP*1099511627776)) abp _ A7.out).mono ?_);rintro e w9 ⟨rfl,hb⟩;refine ⟨_,rfl,?_⟩;replace HB:=aj.mk (ak zB hb);(try clear hb)))
       go_roundg k2
       case measure=>have:=HJ1.out;have:=HK2.out;omega
       case rel=>exact ⟨(lQ),(wrap64 (wL+abp)),(abp),(wrap64 (kP+1)),zT,zT,zT,zT,H',⟨by have:=HJ1.out;have:=HK2.out;omega⟩,⟨zB⟩⟩
      ·rw [if_neg c8] at H
       have vN:((Int.tmod kP 2) == 1)=false:=beq_eq_false_iff_ne.mpr c8
       have acG:((Int.tmod kP 2) != 1)=true:=bne_iff_ne.mpr c8
       have H':=aj.mk H
       clear H
       go_wp2_with (first|((with_reducible refine aA (f:=118) rfl ?_);refine aH (some 25) rfl rfl Tryz.func118 (by kernel_rfl) rfl #[.int .i64 zA,.int .i64 (wrap64 (ab8 - (wrap64 (aaQ*762123384786)))),.int .i64 (wrap64 (kP*1099511627776))] rfl zL ?_;(with_reducible refine (aX.calls k2 zA (wrap64 (ab8 - (wrap64 (aaQ*762123384786)))) (wrap64 (kP*1099511627776)) abp _ A7.out).mono ?_);rintro e w10 ⟨rfl,hb⟩;refine ⟨_,rfl,?_⟩;replace HB:=aj.mk (ak zB hb);(try clear hb)))
       go_roundg k2
       case measure=>have:=HJ1.out;have:=HK2.out;omega
       case rel=>exact ⟨(wrap64 (lQ+abp)),(wL),(abp),(wrap64 (kP+1)),zT,zT,zT,zT,H',⟨by have:=HJ1.out;have:=HK2.out;omega⟩,⟨zB⟩⟩
     ·rw [if_neg c6] at H
      have ig:=decide_eq_false c6
      clear c6
      replace H:=zO H
      obtain ⟨ao8,A11,H⟩:=H
      try dsimp only at H
      obtain rfl:=Option.some.inj H
      go_wp2_with (first|((with_reducible refine aA (f:=101) rfl ?_);refine aH (some 39) rfl rfl Tryz.func101 (by kernel_rfl) rfl #[.int .i64 (wrap64 (lQ - wL)),.int .i64 aaQ] rfl zL ?_;(with_reducible refine (aJ.calls k2 (wrap64 (lQ - wL)) aaQ ao8 _ A11.out).mono ?_);rintro e w12 ⟨rfl,hb⟩;refine ⟨_,rfl,?_⟩;replace HB:=aj.mk (ak zB hb);(try clear hb)))
      go_ret
      exact ⟨zS,zB⟩
def lS.f (k:Nat) (a0 a1:Int):Option (Int):=if a1 < 1 then (some 9223372036854775807) else (if a1 > 4194304 then (some 9223372036854775807) else (if a0 < (-16384) then (some 9223372036854775807) else (if a0 > 16384 then (some 9223372036854775807) else ((aX.f k (wrap64 ((wrap64 (a0*a0))*2147483648)) 1099511627776 (wrap64 (a1*a1))).bind fun ao9=>(some ao9)))))
set_option maxHeartbeats 8000000 in
set_option maxRecDepth 100000 in
theorem lS.calls (k:Nat) (a0 a1 r:Int) (w:World) (h:lS.f k a0 a1=some r) :
  Calls Tryz.prog 146 #[.int .i64 a0,.int .i64 a1] w fun e w'=>e = .returned (.int .i64 r)∧Below w.heap.size w w':=by
 have HB:=aj.mk (Below.refl w.heap.size w)
 have H:=h
 clear h
 unfold lS.f at H
 by_cases c3:a1 < 1
 ·rw [if_pos c3] at H
  have fK:=decide_eq_true c3
  clear c3
  obtain rfl:=Option.some.inj H
  go_enter Tryz.func146,Tryz.ntmps146
  go_wp2
  go_ret
  exact ⟨zS,zB⟩
 ·rw [if_neg c3] at H
  have fK:=decide_eq_false c3
  clear c3
  by_cases c4:a1 > 4194304
  ·rw [if_pos c4] at H
   have fQ:=decide_eq_true c4
   clear c4
   obtain rfl:=Option.some.inj H
   go_enter Tryz.func146,Tryz.ntmps146
   go_wp2
   go_ret
   exact ⟨zS,zB⟩
  ·rw [if_neg c4] at H
   have fQ:=decide_eq_false c4
   clear c4
   by_cases c5:a0 < (-16384)
   ·rw [if_pos c5] at H
    have iJ:=decide_eq_true c5
    clear c5
    obtain rfl:=Option.some.inj H
    go_enter Tryz.func146,Tryz.ntmps146
    go_wp2
    go_ret
    exact ⟨zS,zB⟩
   ·rw [if_neg c5] at H
    have iJ:=decide_eq_false c5
    clear c5
    by_cases c6:a0 > 16384
    ·rw [if_pos c6] at H
     have ig:=decide_eq_true c6
     clear c6
     obtain rfl:=Option.some.inj H
     go_enter Tryz.func146,Tryz.ntmps146
     go_wp2
     go_ret
     exact ⟨zS,zB⟩
    ·rw [if_neg c6] at H
     have ig:=decide_eq_false c6
     clear c6
     replace H:=zO H
     obtain ⟨ao9,A7,H⟩:=H
     try dsimp only at H
     obtain rfl:=Option.some.inj H
     go_enter Tryz.func146,Tryz.ntmps146
     go_wp2_with (first|((with_reducible refine aA (f:=118) rfl ?_);refine aH (some 26) rfl rfl Tryz.func118 (by kernel_rfl) rfl #[.int .i64 (wrap64 ((wrap64 (a0*a0))*2147483648)),.int .i64 1099511627776,.int .i64 (wrap64 (a1*a1))] rfl zL ?_;(with_reducible refine (aX.calls k (wrap64 ((wrap64 (a0*a0))*2147483648)) 1099511627776 (wrap64 (a1*a1)) ao9 _ A7.out).mono ?_);rintro e w8 ⟨rfl,hb⟩;refine ⟨_,rfl,?_⟩;replace HB:=aj.mk (ak zB hb);(try clear hb)))
     go_ret
     exact ⟨zS,zB⟩
def lT.f (k:Nat) (a0 a1:Int):Option (Int):=(lS.f k a0 a1).bind fun ajW=>((dQ.f k ajW).bind fun ajX=>((aJ.f k ajX 10).bind fun apa=>(some apa)))
set_option maxHeartbeats 8000000 in
set_option maxRecDepth 100000 in
theorem lT.calls (k:Nat) (a0 a1 r:Int) (w:World) (h:lT.f k a0 a1=some r) :
  Calls Tryz.prog 116 #[.int .i64 a0,.int .i64 a1] w fun e w'=>e = .returned (.int .i64 r)∧Below w.heap.size w w':=by
 have HB:=aj.mk (Below.refl w.heap.size w)
 have H:=h
 clear h
 unfold lT.f at H
 replace H:=zO H
 obtain ⟨ajW,A3,H⟩:=H
 try dsimp only at H
 replace H:=zO H
 obtain ⟨ajX,A4,H⟩:=H
 try dsimp only at H
 replace H:=zO H
 obtain ⟨apa,A5,H⟩:=H
 try dsimp only at H
 obtain rfl:=Option.some.inj H
 go_enter Tryz.func116,Tryz.ntmps116
 go_wp2_with (first|((with_reducible refine aA (f:=146) rfl ?_);refine aH (some 7) rfl rfl Tryz.func146 (by kernel_rfl) rfl #[.int .i64 a0,.int .i64 a1] rfl zL ?_;(with_reducible refine (lS.calls k a0 a1 ajW _ A3.out).mono ?_);rintro e w6 ⟨rfl,hb⟩;refine ⟨_,rfl,?_⟩;replace HB:=aj.mk (ak zB hb);(try clear hb))|((with_reducible refine aA (f:=145) rfl ?_);refine aH (some 8) rfl rfl Tryz.func145 (by kernel_rfl) rfl #[.int .i64 ajW] rfl zL ?_;(with_reducible refine (dQ.calls k ajW ajX _ A4.out).mono ?_);rintro e w7 ⟨rfl,hb⟩;refine ⟨_,rfl,?_⟩;replace HB:=aj.mk (ak zB hb);(try clear hb))|((with_reducible refine aA (f:=101) rfl ?_);refine aH (some 9) rfl rfl Tryz.func101 (by kernel_rfl) rfl #[.int .i64 ajX,.int .i64 10] rfl zL ?_;(with_reducible refine (aJ.calls k ajX 10 apa _ A5.out).mono ?_);rintro e w8 ⟨rfl,hb⟩;refine ⟨_,rfl,?_⟩;replace HB:=aj.mk (ak zB hb);(try clear hb)))
 go_ret
 exact ⟨zS,zB⟩
end Go.Proofs.YtpondkggmcmpfaaGreatDoor.QA
namespace Go.Proofs.YtpondkggmcmpfaaGreatDoor.QA
open Go.Proofs.YtpondkggmcmpfaaGreatDoor.T
open Go.RowKit Go.Proofs.YtpondkggmcmpfaaGreatDoorW.PrintWords Go.Proofs.YtpondkggmcmpfaaGreatDoorW.PrintLast Go.Proofs.YtpondkggmcmpfaaGreatDoorW.PrintMore
attribute [local go_sem] eP dV dW fM fO
set_option linter.unusedVariables false
set_option linter.unusedSimpArgs false
mutual
def bf.j0:Nat→Int→Bool→Option (List Int × Int)
 | 0,_,_=>none
 | k+1,x0,x12=>if x12=true then (some (([]:List Int),7)) else (bf.l0 k x0 0)
def bf.l0:Nat→Int→Int→Option (List Int × Int)
 | 0,_,_=>none
 | k+1,x0,x4=>if (wrap64 (x4*65536)) < (wrap64 (3*x0)) then (bf.l0 k x0 (wrap64 (x4+1))) else (bf.l1 k x0 x4 ([]:List Int) (wrap64 (-x4)))
def bf.l1:Nat→Int→Int→List Int→Int→Option (List Int × Int)
 | 0,_,_,_,_=>none
 | k+1,x0,x4,x5,x6=>if x6≤x4 then ((lT.f k x6 x0).bind fun ahp=>(if x5.length < 17592186044416 then (bf.l1 k x0 x4 (x5 ++ [ahp]) (wrap64 (x6+1))) else (none))) else (some (x5,0))
end
def bf.f (k:Nat) (a0:Int):Option (List Int × Int):=if a0 < 1 then (bf.j0 k a0 true) else (bf.j0 k a0 (decide (a0 > 4194304)))
set_option maxHeartbeats 8000000 in
set_option maxRecDepth 100000 in
theorem bf.calls (k:Nat) (a0:Int) (r1:List Int) (r2:Int) (w:World) (h:bf.f k a0=some (r1,r2)) :
  Calls Tryz.prog 94 #[.int .i64 a0] w fun e w'=>∃ v0_:Value,e = .returned (.tuple #[v0_,.int .i64 r2])∧Kd.R (Kd.int .i64) 2 w' w.heap.size (fun _=>True) v0_ r1∧Below w.heap.size w w':=by
 have HB:=aj.mk (Below.refl w.heap.size w)
 have H:=h
 clear h
 unfold bf.f at H
 have HC2:=aj.mk H
 clear H
 go_enter Tryz.func94,Tryz.ntmps94
 go_upto_region 1 with (fail)
 go_cut [12] (fun v12 wc=>∃ (kq:Nat) (aaY:Bool),v12 = .bool aaY∧aj (bf.j0 kq a0 aaY=some (r1,r2))∧aj (kq≤k)∧aj (Below w.heap.size w wc))
 case first =>
  have H:=HC2.out
  clear HC2
  by_cases c3:a0 < 1
  ·rw [if_pos c3] at H
   have fK:=decide_eq_true c3
   clear c3
   (first|rw [fK]|(simp only [bW,dh];rw [fK])|skip)
   have H':=aj.mk H
   clear H
   go_wp2
   go_meet
   case rel=>exact ⟨_,(true),zT,H',⟨by first|omega|exact Nat.le_refl _⟩,⟨zB⟩⟩
  ·rw [if_neg c3] at H
   have fK:=decide_eq_false c3
   clear c3
   (first|rw [fK]|(simp only [bW,dh];rw [fK])|skip)
   have H':=aj.mk H
   clear H
   go_wp2
   go_meet
   case rel=>exact ⟨_,(decide (a0 > 4194304)),zT,H',⟨by first|omega|exact Nat.le_refl _⟩,⟨zB⟩⟩
 case rest =>
  clear HC2
  obtain ⟨kq,aaY,rfl,HA,HJ1,HB⟩:=hcut
  cases kq with
  | zero=>exact absurd HA.out (by simp [bf.j0])
  | succ kj1 =>
   have H:=HA.out
   clear HA
   simp only [bf.j0] at H
   by_cases c4:aaY=true
   ·subst c4
    rw [if_pos rfl] at H;try dsimp only at H
    simp only [Option.some.injEq,Prod.mk.injEq] at H
    obtain ⟨rfl,rfl⟩:=H
    go_wp2
    go_ret2
    exact ⟨_,zS,by first|exact Kd.jY _ _ _ _ _|exact Kd.oJ _ _ _ _ _|exact Kd.nG _ _ _ _ _|exact Kd.oK _ _ _ _ _|exact Kd.oz _ _ _ _ _,zB⟩
   ·replace c4:=Bool.eq_false_iff.mpr c4
    subst c4
    rw [if_neg (show ¬ (false=true) by decide)] at H;try dsimp only at H
    have H':=aj.mk H
    clear H
    go_wp2
    go_loopg [4] kj1 (fun kq v4 w'=>∃ (uZ:Int),v4 = .int .i64 uZ∧aj (bf.l0 kq a0 uZ=some (r1,r2))∧aj (kq≤kj1)∧aj (Below w.heap.size w w'))
    case atStart=>exact ⟨(0),zT,H',⟨Nat.le_refl _⟩,⟨zB⟩⟩
    case round =>
     clear H'
     obtain ⟨uZ,rfl,HA,HK2,HB⟩:=hrel
     cases gk with
     | zero=>exact absurd HA.out (by simp [bf.l0])
     | succ k2 =>
      have H:=HA.out
      clear HA
      simp only [bf.l0] at H
      by_cases c5:(wrap64 (uZ*65536)) < (wrap64 (3*a0))
      ·rw [if_pos c5] at H
       have iJ:=decide_eq_true c5
       clear c5
       have H':=aj.mk H
       clear H
       go_wp2
       go_roundg k2
       case measure=>have:=HJ1.out;have:=HK2.out;omega
       case rel=>exact ⟨(wrap64 (uZ+1)),zT,H',⟨by have:=HJ1.out;have:=HK2.out;omega⟩,⟨zB⟩⟩
      ·rw [if_neg c5] at H
       have iJ:=decide_eq_false c5
       clear c5
       have H':=aj.mk H
       clear H
       go_wp2
       try simp only [Act.put,List.setIfInBounds_toArray,List.set_cons_succ,List.set_cons_zero]
       go_loopg [5,6] k2 (fun kq v5 v6 w'=>∃ (ahq:List Int) (aed:Int),v6 = .int .i64 aed∧aj (bf.l1 kq a0 uZ ahq aed=some (r1,r2))∧aj (kq≤k2)∧aj (Kd.R (Kd.int .i64) 2 w' w.heap.size (fun _=>True) v5 ahq)∧aj (Below w.heap.size w w'))
       case atStart=>exact ⟨(([]:List Int)),(wrap64 (-uZ)),zT,H',⟨Nat.le_refl _⟩,⟨by first|exact Kd.jY _ _ _ _ _|exact Kd.oJ _ _ _ _ _|exact Kd.nG _ _ _ _ _|exact Kd.oK _ _ _ _ _|exact Kd.oz _ _ _ _ _⟩,⟨zB⟩⟩
       case round =>
        clear H'
        obtain ⟨ahq,aed,rfl,HA,HK3,wz,HB⟩:=hrel
        cases gk with
        | zero=>exact absurd HA.out (by simp [bf.l1])
        | succ k3 =>
         have H:=HA.out
         clear HA
         simp only [bf.l1] at H
         by_cases c6:aed≤uZ
         ·rw [if_pos c6] at H
          have ig:=decide_eq_true c6
          clear c6
          replace H:=zO H
          obtain ⟨ahp,A7,H⟩:=H
          try dsimp only at H
          by_cases c8:ahq.length < 17592186044416
          ·rw [if_pos c8] at H
           have avt:=aj.mk c8
           clear c8
           obtain ⟨asq,agB⟩:∃ y_:List Int,y_=(ahq ++ [ahp]):=⟨_,rfl⟩
           replace H:(bf.l1 k3 a0 uZ asq (wrap64 (aed+1)))=some (r1,r2):=by first|(rw [agB];with_reducible exact H)|(have H2_:=(Option.bind_some _ _).symm.trans H;rw [agB];with_reducible exact H2_)|(have H2_:=(Option.bind_some _ _).symm.trans H;with_reducible exact H2_)|with_reducible exact H|(rw [agB];exact H)|exact H
           have auk:=aj.mk agB
           clear agB
           have H':=aj.mk H
           clear H
           go_wp2_with (first|((with_reducible refine aA (f:=116) rfl ?_);refine aH (some 30) rfl rfl Tryz.func116 (by kernel_rfl) rfl #[.int .i64 aed,.int .i64 a0] rfl zL ?_;(with_reducible refine (lT.calls k3 aed a0 ahp _ A7.out).mono ?_);rintro e w9 ⟨rfl,hb⟩;refine ⟨_,rfl,?_⟩;obtain ⟨wz,HB⟩:=zA2 (Kd.jK (by (with_reducible repeat (first|apply Kd.aK|apply Kd.aQ|apply Kd.aW));exact wz.out) hb) (ak zB hb);(try clear hb))|((with_reducible refine jD (b := .append) (xs := #[.tmp 27,.tmp 31]) rfl ?_);at_builtin;refine Kd.kT (Kd.int .i64) (w0:=w) w.heap.size rfl (.tmp 27) (.tmp 31) 44 2 (.int .i64 0) 8 rfl Tryz.underlying44 vw rfl (by decide) (by omega) u5 ahq ahp [.int .i64 ahp] (fun _=>True) (fun _=>False) rfl rfl ?aP (fun _ hk=>hk.elim) ?aF ?aO ?aB ?aS ?aL ?_;(case aP=>exact rfl);(case aB=>exact zB);(case aF=>exact (fun _ _=>trivial));(case aO=>exact (by (with_reducible repeat (first|apply Kd.aK|apply Kd.aQ|apply Kd.aW));exact wz.out));(case aS=>exact (bF zB));(case aL=>have:=avt.out;omega);intro aAG w10 ho hb hg hat;rw [← auk.out] at ho;obtain ⟨HB,aul⟩:=zA2 hb ho;clear ho hb hg hat))
           go_roundg k3
           case measure=>have:=HJ1.out;have:=HK2.out;have:=HK3.out;omega
           case rel=>exact ⟨(asq),(wrap64 (aed+1)),zT,H',⟨by have:=HJ1.out;have:=HK2.out;have:=HK3.out;omega⟩,⟨by (with_reducible repeat (first|apply Kd.aK|apply Kd.aQ|apply Kd.aW));exact aul.out⟩,⟨zB⟩⟩
          ·rw [if_neg c8] at H
           exact absurd H (by simp)
         ·rw [if_neg c6] at H
          have ig:=decide_eq_false c6
          clear c6
          simp only [Option.some.injEq,Prod.mk.injEq] at H
          obtain ⟨rfl,rfl⟩:=H
          go_wp2
          go_ret2
          exact ⟨_,zS,by (with_reducible repeat (first|apply Kd.aK|apply Kd.aQ|apply Kd.aW));exact wz.out,zB⟩
def gY.l0:Nat→Int→List Int→Int→Int→Option (Int)
 | 0,_,_,_,_=>none
 | k+1,x3,x6,x7,x8=>if x8 < x7 then (if 0≤x8 then (if x8 < (x6.length:Int) then ((iD.f (rd x6 x8)).bind fun ajY=>((gI.f k x3 ajY).bind fun amC=>(gY.l0 k amC x6 x7 (wrap64 (x8+1))))) else (none)) else (none)) else (some x3)
def gY.f (k:Nat) (l0:List Int):Option (Int):=gY.l0 k 0 l0 (l0.length:Int) 0
set_option maxHeartbeats 8000000 in
set_option maxRecDepth 100000 in
theorem gY.calls (k:Nat) (A0:Option Addr) (c0:Nat) (l0:List Int) (r:Int) (w:World) (hr0:Kd.C (Kd.int .i64) w A0 l0.length l0) (hc0:l0.length≤c0) (h:gY.f k l0=some r) :
  Calls Tryz.prog 117 #[.slice A0 l0.length c0] w fun e w'=>e = .returned (.int .i64 r)∧dw w w':=by
 have HR0:=aj.mk hr0
 have HC0:=aj.mk hc0
 clear hr0 hc0
 have H:=h
 clear h
 unfold gY.f at H
 have H':=aj.mk H
 clear H
 go_enter Tryz.func117,Tryz.ntmps117
 go_wp2
 go_loopg [3,8] k (fun kq v3 v8 w'=>∃ (qA:Int) (gW:Int),v3 = .int .i64 qA∧v8 = .int .i64 gW∧aj (gY.l0 kq qA l0 (l0.length:Int) gW=some r)∧aj (kq≤k)∧dw w w')
 case atStart=>exact ⟨(0),(0),zT,zT,H',⟨Nat.le_refl _⟩,zW⟩
 case round =>
  clear H'
  obtain ⟨qA,gW,rfl,rfl,HA,HK1,⟨m1,rfl⟩⟩:=hrel
  cases gk with
  | zero=>exact absurd HA.out (by simp [gY.l0])
  | succ k1 =>
   have H:=HA.out
   clear HA
   simp only [gY.l0] at H
   by_cases c2:gW < (l0.length:Int)
   ·rw [if_pos c2] at H
    have lN:=decide_eq_true c2
    clear c2
    by_cases c3:0≤gW
    ·rw [if_pos c3] at H
     have fK:=decide_eq_true c3
     clear c3
     by_cases c4:gW < (l0.length:Int)
     ·rw [if_pos c4] at H
      have fQ:=decide_eq_true c4
      clear c4
      replace H:=zO H
      obtain ⟨ajY,A5,H⟩:=H
      try dsimp only at H
      replace H:=zO H
      obtain ⟨amC,A6,H⟩:=H
      try dsimp only at H
      have H':=aj.mk H
      clear H
      have apb:0≤(gW:Int):=of_decide_eq_true (by first|(with_reducible assumption)|assumption)
      have apc:gW < (l0.length:Int):=of_decide_eq_true (by first|(with_reducible assumption)|assumption)
      obtain ⟨azL,avu,axo⟩:=Kd.jC HR0.out gW apb apc
      cases avu
      replace apb:=eq_true apb
      replace apc:=eq_true apc
      go_wp2_with (first|((with_reducible refine aA (f:=142) rfl ?_);refine aH (some 14) rfl rfl Tryz.func142 (by kernel_rfl) rfl #[.int .i64 (rd l0 gW)] rfl zL ?_;(with_reducible refine (iD.calls (rd l0 gW) ajY _ A5.out).mono ?_);rintro e w' ⟨rfl,⟨nd,rfl⟩⟩;refine ⟨_,rfl,?_⟩)|((with_reducible refine aA (f:=147) rfl ?_);refine aH (some 15) rfl rfl Tryz.func147 (by kernel_rfl) rfl #[.int .i64 qA,.int .i64 ajY] rfl zL ?_;(with_reducible refine (gI.calls k1 qA ajY amC _ A6.out).mono ?_);rintro e w' ⟨rfl,⟨nd,rfl⟩⟩;refine ⟨_,rfl,?_⟩))
      go_roundg k1
      case measure=>have:=HK1.out;omega
      case rel=>exact ⟨(amC),(wrap64 (gW+1)),zT,zT,H',⟨by have:=HK1.out;omega⟩,zW⟩
     ·rw [if_neg c4] at H
      exact absurd H (by simp)
    ·rw [if_neg c3] at H
     exact absurd H (by simp)
   ·rw [if_neg c2] at H
    have lN:=decide_eq_false c2
    clear c2
    obtain rfl:=Option.some.inj H
    go_wp2
    go_ret
    exact ⟨zT,zW⟩
end Go.Proofs.YtpondkggmcmpfaaGreatDoor.QA
namespace Go.Proofs.YtpondkggmcmpfaaGreatDoor.QA
open Go.Proofs.YtpondkggmcmpfaaGreatDoor.T
open Go.RowKit Go.Proofs.YtpondkggmcmpfaaGreatDoorW.PrintWords Go.Proofs.YtpondkggmcmpfaaGreatDoorW.PrintLast Go.Proofs.YtpondkggmcmpfaaGreatDoorW.PrintMore
attribute [local go_sem] eP dV dW fM fO
set_option linter.unusedVariables false
set_option linter.unusedSimpArgs false
mutual
def bD.j0:Nat→List Int→Int→Bool→Option (List Int × Int)
 | 0,_,_,_=>none
 | k+1,x0,x4,x26=>if x26=true then (some (([]:List Int),7)) else (bD.l0 k x4 ([]:List Int) x0 (x0.length:Int) 0)
def bD.l0:Nat→Int→List Int→List Int→Int→Int→Option (List Int × Int)
 | 0,_,_,_,_,_=>none
 | k+1,x4,x5,x27,x28,x29=>if x29 < x28 then (if 0≤x29 then (if x29 < (x27.length:Int) then ((aX.f k (rd x27 x29) 1073741824 x4).bind fun ahr=>(if x5.length < 17592186044416 then (bD.l0 k x4 (x5 ++ [ahr]) x27 x28 (wrap64 (x29+1))) else (none))) else (none)) else (none)) else (some (x5,0))
end
def bD.f (k:Nat) (l0:List Int):Option (List Int × Int):=(gY.f k l0).bind fun uz=>(if ((l0.length:Int) % 2)=0 then (bD.j0 k l0 uz true) else (if (l0.length:Int) > 1024 then (bD.j0 k l0 uz true) else (if uz=0 then (bD.j0 k l0 uz true) else (bD.j0 k l0 uz (decide (uz > 1048576))))))
set_option maxHeartbeats 8000000 in
set_option maxRecDepth 100000 in
theorem bD.calls (k:Nat) (A0:Option Addr) (c0:Nat) (l0 r1:List Int) (r2:Int) (w:World) (hr0:Kd.C (Kd.int .i64) w A0 l0.length l0) (hc0:l0.length≤c0) (h:bD.f k l0=some (r1,r2)) :
  Calls Tryz.prog 96 #[.slice A0 l0.length c0] w fun e w'=>∃ v0_:Value,e = .returned (.tuple #[v0_,.int .i64 r2])∧Kd.R (Kd.int .i64) 2 w' w.heap.size (fun _=>True) v0_ r1∧Below w.heap.size w w':=by
 have HR0:=aj.mk hr0
 have HC0:=aj.mk hc0
 clear hr0 hc0
 have HB:=aj.mk (Below.refl w.heap.size w)
 have H:=h
 clear h
 unfold bD.f at H
 replace H:=zO H
 obtain ⟨uz,A2,H⟩:=H
 try dsimp only at H
 have HC3:=aj.mk H
 clear H
 go_enter Tryz.func96,Tryz.ntmps96
 go_upto_region 2 with (first|((with_reducible refine aA (f:=117) rfl ?_);refine aH (some 9) rfl rfl Tryz.func117 (by kernel_rfl) rfl #[.slice A0 l0.length c0] rfl zL ?_;(with_reducible refine (gY.calls k _ _ l0 uz _ ?iG ?iH A2.out).mono ?_);(case iG=>repeat (first|exact HR0.out|(with_reducible refine Kd.jd ?_ _)|(with_reducible refine Kd.jB ?_ _)|(with_reducible refine Kd.kC ?_)));(case iH=>exact HC0.out);rintro e w' ⟨rfl,⟨nd,rfl⟩⟩;refine ⟨_,rfl,?_⟩))
 (try simp only [Act.put,List.setIfInBounds_toArray,List.set_cons_zero,List.set_cons_succ])
 go_cut [26] (fun v26 wc=>∃ (kq:Nat) (aaZ:Bool),v26 = .bool aaZ∧aj (bD.j0 kq l0 uz aaZ=some (r1,r2))∧aj (kq≤k)∧aj (Below w.heap.size w wc))
 case first =>
  have H:=HC3.out
  clear HC3
  by_cases c4:((l0.length:Int) % 2)=0
  ·rw [if_pos c4] at H
   have fQ:(((l0.length:Int) % 2) == 0)=true:=beq_iff_eq.mpr c4
   have acJ:(((l0.length:Int) % 2) != 0)=false:=bne_eq_false_iff_eq.mpr c4
   clear c4
   (first|rw [fQ]|(simp only [bW,dh];rw [fQ])|skip)
   have H':=aj.mk H
   clear H
   go_wp2
   go_meet
   case rel=>exact ⟨_,(true),zT,H',⟨by first|omega|exact Nat.le_refl _⟩,⟨zB⟩⟩
  ·rw [if_neg c4] at H
   have fQ:(((l0.length:Int) % 2) == 0)=false:=beq_eq_false_iff_ne.mpr c4
   have acJ:(((l0.length:Int) % 2) != 0)=true:=bne_iff_ne.mpr c4
   (first|rw [fQ]|(simp only [bW,dh];rw [fQ])|skip)
   by_cases c5:(l0.length:Int) > 1024
   ·rw [if_pos c5] at H
    have iJ:=decide_eq_true c5
    have abq:decide (1024 < l0.length)=true:=decide_eq_true (by omega)
    clear c5
    have H':=aj.mk H
    clear H
    go_wp2
    go_meet
    case rel=>exact ⟨_,(true),zT,H',⟨by first|omega|exact Nat.le_refl _⟩,⟨zB⟩⟩
   ·rw [if_neg c5] at H
    have iJ:=decide_eq_false c5
    have abq:decide (1024 < l0.length)=false:=decide_eq_false (by omega)
    clear c5
    by_cases c6:uz=0
    ·rw [if_pos c6] at H
     have ig:(uz == 0)=true:=beq_iff_eq.mpr c6
     have uj:(uz != 0)=false:=bne_eq_false_iff_eq.mpr c6
     clear c6
     have H':=aj.mk H
     clear H
     go_wp2
     go_meet
     case rel=>exact ⟨_,(true),zT,H',⟨by first|omega|exact Nat.le_refl _⟩,⟨zB⟩⟩
    ·rw [if_neg c6] at H
     have ig:(uz == 0)=false:=beq_eq_false_iff_ne.mpr c6
     have uj:(uz != 0)=true:=bne_iff_ne.mpr c6
     have H':=aj.mk H
     clear H
     go_wp2
     go_meet
     case rel=>exact ⟨_,(decide (uz > 1048576)),zT,H',⟨by first|omega|exact Nat.le_refl _⟩,⟨zB⟩⟩
 case rest =>
  clear HC3
  obtain ⟨kq,aaZ,rfl,HA,HJ2,HB⟩:=hcut
  cases kq with
  | zero=>exact absurd HA.out (by simp [bD.j0])
  | succ kj2 =>
   have H:=HA.out
   clear HA
   simp only [bD.j0] at H
   by_cases c7:aaZ=true
   ·subst c7
    rw [if_pos rfl] at H;try dsimp only at H
    simp only [Option.some.injEq,Prod.mk.injEq] at H
    obtain ⟨rfl,rfl⟩:=H
    go_wp2
    go_ret2
    exact ⟨_,zS,by first|exact Kd.jY _ _ _ _ _|exact Kd.oJ _ _ _ _ _|exact Kd.nG _ _ _ _ _|exact Kd.oK _ _ _ _ _|exact Kd.oz _ _ _ _ _,zB⟩
   ·replace c7:=Bool.eq_false_iff.mpr c7
    subst c7
    rw [if_neg (show ¬ (false=true) by decide)] at H;try dsimp only at H
    have H':=aj.mk H
    clear H
    go_wp2
    go_loopg [5,29] kj2 (fun kq v5 v29 w'=>∃ (lQ:List Int) (lH:Int),v29 = .int .i64 lH∧aj (bD.l0 kq uz lQ l0 (l0.length:Int) lH=some (r1,r2))∧aj (kq≤kj2)∧aj (Kd.R (Kd.int .i64) 2 w' w.heap.size (fun _=>True) v5 lQ)∧aj (Below w.heap.size w w'))
    case atStart=>exact ⟨(([]:List Int)),(0),zT,H',⟨Nat.le_refl _⟩,⟨by first|exact Kd.jY _ _ _ _ _|exact Kd.oJ _ _ _ _ _|exact Kd.nG _ _ _ _ _|exact Kd.oK _ _ _ _ _|exact Kd.oz _ _ _ _ _⟩,⟨zB⟩⟩
    case round =>
     clear H'
     obtain ⟨lQ,lH,rfl,HA,HK2,wz,HB⟩:=hrel
     cases gk with
     | zero=>exact absurd HA.out (by simp [bD.l0])
     | succ k2 =>
      have H:=HA.out
      clear HA
      simp only [bD.l0] at H
      by_cases c8:lH < (l0.length:Int)
      ·rw [if_pos c8] at H
       have vN:=decide_eq_true c8
       clear c8
       by_cases c9:0≤lH
       ·rw [if_pos c9] at H
        have qH:=decide_eq_true c9
        clear c9
        by_cases c10:lH < (l0.length:Int)
        ·rw [if_pos c10] at H
         have pO:=decide_eq_true c10
         clear c10
         replace H:=zO H
         obtain ⟨ahr,A11,H⟩:=H
         try dsimp only at H
         by_cases c12:lQ.length < 17592186044416
         ·rw [if_pos c12] at H
          have aum:=aj.mk c12
          clear c12
          obtain ⟨asr,agC⟩:∃ y_:List Int,y_=(lQ ++ [ahr]):=⟨_,rfl⟩
          replace H:(bD.l0 k2 uz asr l0 (l0.length:Int) (wrap64 (lH+1)))=some (r1,r2):=by first|(rw [agC];with_reducible exact H)|(have H2_:=(Option.bind_some _ _).symm.trans H;rw [agC];with_reducible exact H2_)|(have H2_:=(Option.bind_some _ _).symm.trans H;with_reducible exact H2_)|with_reducible exact H|(rw [agC];exact H)|exact H
          have aun:=aj.mk agC
          clear agC
          have H':=aj.mk H
          clear H
          have apd:0≤(lH:Int):=of_decide_eq_true (by first|(with_reducible assumption)|assumption)
          have ape:lH < (l0.length:Int):=of_decide_eq_true (by first|(with_reducible assumption)|assumption)
          obtain ⟨azM,avv,ahs⟩:=Kd.jC HR0.out lH apd ape
          cases avv
          replace ahs:=(HB.out.cell (World.block_lt_of_cell? w _ ahs)).trans ahs
          replace apd:=eq_true apd
          replace ape:=eq_true ape
          go_wp2_with (first|((with_reducible refine aA (f:=118) rfl ?_);refine aH (some 36) rfl rfl Tryz.func118 (by kernel_rfl) rfl #[.int .i64 (rd l0 lH),.int .i64 1073741824,.int .i64 uz] rfl zL ?_;(with_reducible refine (aX.calls k2 (rd l0 lH) 1073741824 uz ahr _ A11.out).mono ?_);rintro e w13 ⟨rfl,hb⟩;refine ⟨_,rfl,?_⟩;obtain ⟨wz,HB⟩:=zA2 (Kd.jK (by (with_reducible repeat (first|apply Kd.aK|apply Kd.aQ|apply Kd.aW));exact wz.out) hb) (ak zB hb);(try clear hb))|((with_reducible refine jD (b := .append) (xs := #[.tmp 33,.tmp 37]) rfl ?_);(try (refine jZ (by rfl) ?_;dsimp only));at_builtin;refine Kd.kT (Kd.int .i64) (w0:=w) w.heap.size rfl (.tmp 33) (.tmp 37) 44 2 (.int .i64 0) 8 rfl Tryz.underlying44 vw rfl (by decide) (by omega) u5 lQ ahr [.int .i64 ahr] (fun _=>True) (fun _=>False) rfl rfl ?aP (fun _ hk=>hk.elim) ?aF ?aO ?aB ?aS ?aL ?_;(case aP=>exact rfl);(case aB=>exact zB);(case aF=>exact (fun _ _=>trivial));(case aO=>exact (by (with_reducible repeat (first|apply Kd.aK|apply Kd.aQ|apply Kd.aW));exact wz.out));(case aS=>exact (bF zB));(case aL=>have:=aum.out;omega);intro aAH w14 ho hb hg hat;rw [← aun.out] at ho;obtain ⟨HB,auo⟩:=zA2 hb ho;clear ho hb hg hat))
          go_roundg k2
          case measure=>have:=HJ2.out;have:=HK2.out;omega
          case rel=>exact ⟨(asr),(wrap64 (lH+1)),zT,H',⟨by have:=HJ2.out;have:=HK2.out;omega⟩,⟨by (with_reducible repeat (first|apply Kd.aK|apply Kd.aQ|apply Kd.aW));exact auo.out⟩,⟨zB⟩⟩
         ·rw [if_neg c12] at H
          exact absurd H (by simp)
        ·rw [if_neg c10] at H
         exact absurd H (by simp)
       ·rw [if_neg c9] at H
        exact absurd H (by simp)
      ·rw [if_neg c8] at H
       have vN:=decide_eq_false c8
       clear c8
       simp only [Option.some.injEq,Prod.mk.injEq] at H
       obtain ⟨rfl,rfl⟩:=H
       go_wp2
       go_ret2
       exact ⟨_,zS,by (with_reducible repeat (first|apply Kd.aK|apply Kd.aQ|apply Kd.aW));exact wz.out,zB⟩
end Go.Proofs.YtpondkggmcmpfaaGreatDoor.QA
namespace Go.Proofs.YtpondkggmcmpfaaGreatDoor.QA
open Go.Proofs.YtpondkggmcmpfaaGreatDoor.T
open Go.RowKit Go.Proofs.YtpondkggmcmpfaaGreatDoorW.PrintWords Go.Proofs.YtpondkggmcmpfaaGreatDoorW.PrintLast Go.Proofs.YtpondkggmcmpfaaGreatDoorW.PrintMore
attribute [local go_sem] eP dV dW fM fO
set_option linter.unusedVariables false
set_option linter.unusedSimpArgs false
mutual
def dM.j0:Nat→Int→Bool→Option (List Int × Int)
 | 0,_,_=>none
 | k+1,x0,x10=>if x10=true then (some (([]:List Int),7)) else (dM.l0 k ([]:List Int) (wrap64 ((wrap64 (2*x0))+1)) 0)
def dM.l0:Nat→List Int→Int→Int→Option (List Int × Int)
 | 0,_,_,_=>none
 | k+1,x4,x13,x14=>if x14 < x13 then (if x4.length < 17592186044416 then (dM.l0 k (x4 ++ [1]) x13 (wrap64 (x14+1))) else (none)) else ((bD.f k x4).bind fun aqy=>(some (aqy.1,aqy.2)))
end
def dM.f (k:Nat) (a0:Int):Option (List Int × Int):=if a0 < 0 then (dM.j0 k a0 true) else (dM.j0 k a0 (decide (a0 > 511)))
set_option maxHeartbeats 8000000 in
set_option maxRecDepth 100000 in
theorem dM.calls (k:Nat) (a0:Int) (r1:List Int) (r2:Int) (w:World) (h:dM.f k a0=some (r1,r2)) :
  Calls Tryz.prog 95 #[.int .i64 a0] w fun e w'=>∃ v0_:Value,e = .returned (.tuple #[v0_,.int .i64 r2])∧Kd.R (Kd.int .i64) 2 w' w.heap.size (fun _=>True) v0_ r1∧Below w.heap.size w w':=by
 have HB:=aj.mk (Below.refl w.heap.size w)
 have H:=h
 clear h
 unfold dM.f at H
 have HC2:=aj.mk H
 clear H
 go_enter Tryz.func95,Tryz.ntmps95
 go_upto_region 1 with (fail)
 go_cut [10] (fun v10 wc=>∃ (kq:Nat) (vK:Bool),v10 = .bool vK∧aj (dM.j0 kq a0 vK=some (r1,r2))∧aj (kq≤k)∧aj (Below w.heap.size w wc))
 case first =>
  have H:=HC2.out
  clear HC2
  by_cases c3:a0 < 0
  ·rw [if_pos c3] at H
   have fK:=decide_eq_true c3
   clear c3
   (first|rw [fK]|(simp only [bW,dh];rw [fK])|skip)
   have H':=aj.mk H
   clear H
   go_wp2
   go_meet
   case rel=>exact ⟨_,(true),zT,H',⟨by first|omega|exact Nat.le_refl _⟩,⟨zB⟩⟩
  ·rw [if_neg c3] at H
   have fK:=decide_eq_false c3
   clear c3
   (first|rw [fK]|(simp only [bW,dh];rw [fK])|skip)
   have H':=aj.mk H
   clear H
   go_wp2
   go_meet
   case rel=>exact ⟨_,(decide (a0 > 511)),zT,H',⟨by first|omega|exact Nat.le_refl _⟩,⟨zB⟩⟩
 case rest =>
  clear HC2
  obtain ⟨kq,vK,rfl,HA,HJ1,HB⟩:=hcut
  cases kq with
  | zero=>exact absurd HA.out (by simp [dM.j0])
  | succ kj1 =>
   have H:=HA.out
   clear HA
   simp only [dM.j0] at H
   by_cases c4:vK=true
   ·subst c4
    rw [if_pos rfl] at H;try dsimp only at H
    simp only [Option.some.injEq,Prod.mk.injEq] at H
    obtain ⟨rfl,rfl⟩:=H
    go_wp2
    go_ret2
    exact ⟨_,zS,by first|exact Kd.jY _ _ _ _ _|exact Kd.oJ _ _ _ _ _|exact Kd.nG _ _ _ _ _|exact Kd.oK _ _ _ _ _|exact Kd.oz _ _ _ _ _,zB⟩
   ·replace c4:=Bool.eq_false_iff.mpr c4
    subst c4
    rw [if_neg (show ¬ (false=true) by decide)] at H;try dsimp only at H
    have H':=aj.mk H
    clear H
    go_wp2
    go_loopg [4,14] kj1 (fun kq v4 v14 w'=>∃ (uZ:List Int) (yH:Int),v14 = .int .i64 yH∧aj (dM.l0 kq uZ (wrap64 ((wrap64 (2*a0))+1)) yH=some (r1,r2))∧aj (kq≤kj1)∧aj (Kd.R (Kd.int .i64) 2 w' w.heap.size (fun _=>True) v4 uZ)∧aj (Below w.heap.size w w'))
    case atStart=>exact ⟨(([]:List Int)),(0),zT,H',⟨Nat.le_refl _⟩,⟨by first|exact Kd.jY _ _ _ _ _|exact Kd.oJ _ _ _ _ _|exact Kd.nG _ _ _ _ _|exact Kd.oK _ _ _ _ _|exact Kd.oz _ _ _ _ _⟩,⟨zB⟩⟩
    case round =>
     clear H'
     obtain ⟨uZ,yH,rfl,HA,HK2,afD,HB⟩:=hrel
     cases gk with
     | zero=>exact absurd HA.out (by simp [dM.l0])
     | succ k2 =>
      have H:=HA.out
      clear HA
      simp only [dM.l0] at H
      by_cases c5:yH < (wrap64 ((wrap64 (2*a0))+1))
      ·rw [if_pos c5] at H
       have iJ:=decide_eq_true c5
       clear c5
       by_cases c6:uZ.length < 17592186044416
       ·rw [if_pos c6] at H
        have avw:=aj.mk c6
        clear c6
        obtain ⟨asu,agD⟩:∃ y_:List Int,y_=(uZ ++ [1]):=⟨_,rfl⟩
        replace H:(dM.l0 k2 asu (wrap64 ((wrap64 (2*a0))+1)) (wrap64 (yH+1)))=some (r1,r2):=by first|(rw [agD];with_reducible exact H)|(have H2_:=(Option.bind_some _ _).symm.trans H;rw [agD];with_reducible exact H2_)|(have H2_:=(Option.bind_some _ _).symm.trans H;with_reducible exact H2_)|with_reducible exact H|(rw [agD];exact H)|exact H
        have aup:=aj.mk agD
        clear agD
        have H':=aj.mk H
        clear H
        go_wp2_with (first|((with_reducible refine jD (b := .append) (xs := #[.tmp 16,.tmp 17]) rfl ?_);at_builtin;refine Kd.kT (Kd.int .i64) (w0:=w) w.heap.size rfl (.tmp 16) (.tmp 17) 44 2 (.int .i64 0) 8 rfl Tryz.underlying44 vw rfl (by decide) (by omega) u4 uZ 1 [.int .i64 1] (fun _=>True) (fun _=>False) rfl rfl ?aP (fun _ hk=>hk.elim) ?aF ?aO ?aB ?aS ?aL ?_;(case aP=>exact rfl);(case aB=>exact zB);(case aF=>exact (fun _ _=>trivial));(case aO=>exact (by (with_reducible repeat (first|apply Kd.aK|apply Kd.aQ|apply Kd.aW));exact afD.out));(case aS=>exact (bF zB));(case aL=>have:=avw.out;omega);intro aAI w7 ho hb hg hat;rw [← aup.out] at ho;obtain ⟨HB,auq⟩:=zA2 hb ho;clear ho hb hg hat))
        go_roundg k2
        case measure=>have:=HJ1.out;have:=HK2.out;omega
        case rel=>exact ⟨(asu),(wrap64 (yH+1)),zT,H',⟨by have:=HJ1.out;have:=HK2.out;omega⟩,⟨by (with_reducible repeat (first|apply Kd.aK|apply Kd.aQ|apply Kd.aW));exact auq.out⟩,⟨zB⟩⟩
       ·rw [if_neg c6] at H
        exact absurd H (by simp)
      ·rw [if_neg c5] at H
       have iJ:=decide_eq_false c5
       clear c5
       replace H:=zO H
       obtain ⟨⟨avx,avy⟩,A8,H⟩:=H
       try dsimp only at H
       simp only [Option.some.injEq,Prod.mk.injEq] at H
       obtain ⟨rfl,rfl⟩:=H
       obtain ⟨Ao9,co9,eo9⟩:=Kd.gq afD.out
       subst eo9
       go_wp2_with (first|((with_reducible refine aA (f:=96) rfl ?_);refine aH (some 21) rfl rfl Tryz.func96 (by kernel_rfl) rfl #[.slice Ao9 uZ.length co9] rfl zL ?_;(with_reducible refine (bD.calls k2 _ _ uZ avx avy _ ?iG ?iH A8.out).mono ?_);(case iG=>repeat (first|exact (Kd.dK afD.out).2.2|(with_reducible refine Kd.jd ?_ _)|(with_reducible refine Kd.jB ?_ _)|(with_reducible refine Kd.kC ?_)));(case iH=>exact (Kd.dK afD.out).2.1);rintro e w10 ⟨aAJ,rfl,ho0,hb⟩;refine ⟨_,rfl,?_⟩;obtain ⟨afD,aur,HB⟩:=zA3 (Kd.iC (by (with_reducible repeat (first|apply Kd.aK|apply Kd.aQ|apply Kd.aW));exact afD.out) (Kd.iY ho0) hb) (Kd.fU (Kd.jL ho0 (Kd.kU (by (with_reducible repeat (first|apply Kd.aK|apply Kd.aQ|apply Kd.aW));exact afD.out))) (bF zB)) (ak zB hb);(try clear hb);(try clear ho0)))
       go_ret2
       exact ⟨_,zS,by (with_reducible repeat (first|apply Kd.aK|apply Kd.aQ|apply Kd.aW));exact Kd.dX aur.out (fun _ hk=>trivial),zB⟩
def rG.f (a0:Int):Option (Bool):=if a0≥1 then (some (decide (a0≤4096))) else (some false)
set_option maxHeartbeats 8000000 in
set_option maxRecDepth 100000 in
theorem rG.calls (a0:Int) (r:Bool) (w:World) (h:rG.f a0=some r) :
  Calls Tryz.prog 61 #[.int .i64 a0] w fun e w'=>e = .returned (.bool r)∧dw w w':=by
 have H:=h
 clear h
 unfold rG.f at H
 by_cases c2:a0≥1
 ·rw [if_pos c2] at H
  have lN:=decide_eq_true c2
  clear c2
  obtain rfl:=Option.some.inj H
  go_enter Tryz.func61,Tryz.ntmps61
  go_wp2
  go_ret
  exact ⟨zT,zW⟩
 ·rw [if_neg c2] at H
  have lN:=decide_eq_false c2
  clear c2
  obtain rfl:=Option.some.inj H
  go_enter Tryz.func61,Tryz.ntmps61
  go_wp2
  go_ret
  exact ⟨zT,zW⟩
def uD.f (a0 a1:Int):Option (Int):=if a1=0 then (none) else (some (wrap64 (Int.tdiv (wrap64 ((wrap64 (a0+a1)) - 1)) a1)))
set_option maxHeartbeats 8000000 in
set_option maxRecDepth 100000 in
theorem uD.calls (a0 a1 r:Int) (w:World) (h:uD.f a0 a1=some r) :
  Calls Tryz.prog 65 #[.int .i64 a0,.int .i64 a1] w fun e w'=>e = .returned (.int .i64 r)∧dw w w':=by
 have H:=h
 clear h
 unfold uD.f at H
 by_cases c3:a1=0
 ·rw [if_pos c3] at H
  exact absurd H (by simp)
 ·rw [if_neg c3] at H
  have fK:(a1 == 0)=false:=beq_eq_false_iff_ne.mpr c3
  have wJ:(a1 != 0)=true:=bne_iff_ne.mpr c3
  obtain rfl:=Option.some.inj H
  go_enter Tryz.func65,Tryz.ntmps65
  go_wp2
  go_ret
  exact ⟨zT,zW⟩
end Go.Proofs.YtpondkggmcmpfaaGreatDoor.QA
namespace Go.Proofs.YtpondkggmcmpfaaGreatDoor.QA
open Go.Proofs.YtpondkggmcmpfaaGreatDoor.T
open Go.RowKit Go.Proofs.YtpondkggmcmpfaaGreatDoorW.PrintWords Go.Proofs.YtpondkggmcmpfaaGreatDoorW.PrintLast Go.Proofs.YtpondkggmcmpfaaGreatDoorW.PrintMore
attribute [local go_sem] eP dV dW fM fO
set_option linter.unusedVariables false
set_option linter.unusedSimpArgs false
end Go.Proofs.YtpondkggmcmpfaaGreatDoor.QA
