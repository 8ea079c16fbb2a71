/- Joined by wip/tools/bundle.py out of: QAx36 QAx37 QAx38 QAx39 QAx40 QAx41 QAx43 QAx42 QAx44 QAx45. -/
import Derived.Test.YtpondkggmcmpfaaGreatDoorBPlanCovers0
import Derived.Test.YtpondkggmcmpfaaGreatDoorBPlanCovers1
import Derived.Test.YtpondkggmcmpfaaGreatDoorBPlanCovers13
import Derived.Test.YtpondkggmcmpfaaGreatDoorBPlanCovers7
import Derived.Test.YtpondkggmcmpfaaGreatDoorBPlanCovers12
namespace Go.Proofs.YtpondkggmcmpfaaGreatDoor.QA
open Go.Proofs.YtpondkggmcmpfaaGreatDoor.T
open Go.RowKit Go.Proofs.YtpondkggmcmpfaaGreatDoorW.PrintWords Go.Proofs.YtpondkggmcmpfaaGreatDoorW.PrintLast Go.Proofs.YtpondkggmcmpfaaGreatDoorW.PrintMore
attribute [local go_sem] dY dS dU fA fB
set_option linter.unusedVariables false
set_option linter.unusedSimpArgs false
mutual
def aG.j0:Nat→List Int→Bool→Option (List Int × Int)
 | 0,_,_=>none
 | k+1,x0,x22=>if x22=true then (some (([]:List Int),7)) else (aG.l0 k x0 x0 (x0.length:Int) 0)
def aG.l0:Nat→List Int→List Int→Int→Int→Option (List Int × Int)
 | 0,_,_,_,_=>none
 | k+1,x0,x23,x24,x25=>if x25 < x24 then (if 0≤x25 then (if x25 < (x23.length:Int) then ((iG.f (rd x23 x25)).bind fun ac8=>(if ac8 > 1099511627776 then (some (([]:List Int),7)) else (aG.l0 k x0 x23 x24 (wrap64 (x25+1))))) else (none)) else (none)) else ((eY.f k x0).bind fun qj=>(if qj < 268435456 then (some (([]:List Int),8)) else (aG.l1 k qj ([]:List Int) ([]:List Int) 16384 x0 (x0.length:Int) 0)))
def aG.l1:Nat→Int→List Int→List Int→Int→List Int→Int→Int→Option (List Int × Int)
 | 0,_,_,_,_,_,_,_=>none
 | k+1,x6,x7,x8,x9,x37,x38,x39=>if x39 < x38 then (if 0≤x39 then (if x39 < (x37.length:Int) then ((dV.f k (wrap64 ((rd x37 x39)*16384)) x6).bind fun pU=>(if x7.length < 17592186044416 then (if x8.length < 17592186044416 then (aG.l1 k x6 (x7 ++ [pU]) (x8 ++ [wrap64 ((wrap64 ((rd x37 x39)*16384)) - (wrap64 (pU*x6)))]) (wrap64 (x9 - pU)) x37 x38 (wrap64 (x39+1))) else (none)) else (none))) else (none)) else (none)) else (aG.l2 k x7 x8 x9)
def aG.l2:Nat→List Int→List Int→Int→Option (List Int × Int)
 | 0,_,_,_=>none
 | k+1,x7,x8,x9=>if x9 > 0 then (aG.l3 k x7 x8 x9 0 (x8.length:Int) 0) else (some (x7,0))
def aG.l3:Nat→List Int→List Int→Int→Int→Int→Int→Option (List Int × Int)
 | 0,_,_,_,_,_,_=>none
 | k+1,x7,x8,x9,x13,x67,x68=>if x68 < x67 then (if 0≤x68 then (if x68 < (x8.length:Int) then (if 0≤x13 then (if x13 < (x8.length:Int) then (if (rd x8 x68) > (rd x8 x13) then (aG.l3 k x7 x8 x9 x68 x67 (wrap64 (x68+1))) else (aG.l3 k x7 x8 x9 x13 x67 (wrap64 (x68+1)))) else (none)) else (none)) else (none)) else (none)) else (if 0≤x13 then (if x13 < (x7.length:Int) then (if x13 < (x8.length:Int) then (aG.l2 k (x7.set (x13:Int).toNat (wrap64 ((rd x7 x13)+1))) (x8.set (x13:Int).toNat (-1)) (wrap64 (x9 - 1))) else (none)) else (none)) else (none))
end
def aG.f (k:Nat) (l0:List Int):Option (List Int × Int):=if (l0.length:Int) < 1 then (aG.j0 k l0 true) else (aG.j0 k l0 (decide ((l0.length:Int) > 1048576)))
set_option maxHeartbeats 8000000 in
set_option maxRecDepth 100000 in
theorem aG.calls (k:Nat) (A0:Option Addr) (c0:Nat) (l0 r1:List Int) (r2:Int) (w:World) (hr0:Kd.C (Kd.int .i64) w A0 l0.length l0) (hc0:l0.length≤c0) (h:aG.f k l0=some (r1,r2)) :
  Calls Tryz.prog 115 #[.slice A0 l0.length c0] w fun e w'=>∃ v0_:Value,e = .returned (.tuple #[v0_,.int .i64 r2])∧Kd.R (Kd.int .i64) 2 w' w.heap.size (fun _=>True) v0_ r1∧Below w.heap.size w w':=by
 have HR0:=aj.mk hr0
 have HC0:=aj.mk hc0
 clear hr0 hc0
 have HB:=aj.mk (Below.refl w.heap.size w)
 have H:=h
 clear h
 unfold aG.f at H
 have HC2:=aj.mk H
 clear H
 go_enter Tryz.func115,Tryz.ntmps115
 go_upto_region 1 with (fail)
 repeat (go_quiet (fail);go_upto_region 1 with (fail))
 go_cut [22] (fun v22 wc=>∃ (kq:Nat) (ai7:Bool),v22 = .bool ai7∧aj (aG.j0 kq l0 ai7=some (r1,r2))∧aj (kq≤k)∧aj (Below w.heap.size w wc))
 case first =>
  have H:=HC2.out
  clear HC2
  by_cases c3:(l0.length:Int) < 1
  ·rw [if_pos c3] at H
   have fQ:=decide_eq_true c3
   have wS:decide (l0.length < 1)=true:=decide_eq_true (by omega)
   clear c3
   (first|rw [fQ]|(simp only [bW,dA];rw [fQ])|skip)
   have H':=aj.mk H
   clear H
   go_wp2
   repeat (go_quiet (fail);try go_wp2)
   go_meet
   case rel=>exact ⟨_,(true),zT,H',⟨by first|omega|exact Nat.le_refl _⟩,⟨zB⟩⟩
  ·rw [if_neg c3] at H
   have fQ:=decide_eq_false c3
   have wS:decide (l0.length < 1)=false:=decide_eq_false (by omega)
   clear c3
   (first|rw [fQ]|(simp only [bW,dA];rw [fQ])|skip)
   have H':=aj.mk H
   clear H
   go_wp2
   repeat (go_quiet (fail);try go_wp2)
   go_meet
   case rel=>exact ⟨_,(decide ((l0.length:Int) > 1048576)),zT,H',⟨by first|omega|exact Nat.le_refl _⟩,⟨zB⟩⟩
 case rest =>
  clear HC2
  obtain ⟨kq,ai7,rfl,HA,HJ1,HB⟩:=hcut
  cases kq with
  | zero=>exact absurd HA.out (by simp [aG.j0])
  | succ kj1 =>
   have H:=HA.out
   clear HA
   simp only [aG.j0] at H
   by_cases c4:ai7=true
   ·subst c4
    rw [if_pos rfl] at H;try dsimp only at H
    simp only [Option.some.injEq,Prod.mk.injEq] at H
    obtain ⟨rfl,rfl⟩:=H
    go_wp2
    repeat (go_quiet (fail);try go_wp2)
    go_ret2
    exact ⟨_,zS,by first|exact Kd.kF _ _ _ _ _|exact Kd.oQ _ _ _ _ _|exact Kd.nN _ _ _ _ _|exact Kd.oU _ _ _ _ _|exact Kd.oK _ _ _ _ _,zB⟩
   ·replace c4:=Bool.eq_false_iff.mpr c4
    subst c4
    rw [if_neg (show ¬ (false=true) by decide)] at H;try dsimp only at H
    have H':=aj.mk H
    clear H
    go_wp2
    repeat (go_quiet (fail);try go_wp2)
    go_loopg [25] kj1 (fun kq v25 w'=>∃ (qm:Int),v25 = .int .i64 qm∧aj (aG.l0 kq l0 l0 (l0.length:Int) qm=some (r1,r2))∧aj (kq≤kj1)∧aj (Below w.heap.size w w'))
    case atStart=>exact ⟨(0),zT,H',⟨Nat.le_refl _⟩,⟨zB⟩⟩
    case round =>
     clear H'
     obtain ⟨qm,rfl,HA,HK2,HB⟩:=hrel
     cases gk with
     | zero=>exact absurd HA.out (by simp [aG.l0])
     | succ k2 =>
      have H:=HA.out
      clear HA
      simp only [aG.l0] at H
      by_cases c5:qm < (l0.length:Int)
      ·rw [if_pos c5] at H
       have iM:=decide_eq_true c5
       clear c5
       by_cases c6:0≤qm
       ·rw [if_pos c6] at H
        have iy:=decide_eq_true c6
        clear c6
        by_cases c7:qm < (l0.length:Int)
        ·rw [if_pos c7] at H
         have jw:=decide_eq_true c7
         clear c7
         replace H:=zO H
         obtain ⟨ac8,A8,H⟩:=H
         try dsimp only at H
         by_cases c9:ac8 > 1099511627776
         ·rw [if_pos c9] at H
          have qO:=decide_eq_true c9
          clear c9
          simp only [Option.some.injEq,Prod.mk.injEq] at H
          obtain ⟨rfl,rfl⟩:=H
          have afH:0≤(qm:Int):=of_decide_eq_true (by first|(with_reducible assumption)|assumption)
          have afI:qm < (l0.length:Int):=of_decide_eq_true (by first|(with_reducible assumption)|assumption)
          obtain ⟨auP,apn,zU⟩:=Kd.jF HR0.out qm afH afI
          cases apn
          replace zU:=(HB.out.cell (World.block_lt_of_cell? w _ zU)).trans zU
          replace afH:=eq_true afH
          replace afI:=eq_true afI
          go_wp2_with (first|(go_at_call 142;(with_reducible refine (iG.calls (rd l0 qm) ac8 _ A8.out).mono ?_);rintro e w' ⟨rfl,⟨nd,rfl⟩⟩;(try exact ⟨rfl,_,zN⟩)))
          repeat (go_quiet (first|(go_at_call 142;(with_reducible refine (iG.calls (rd l0 qm) ac8 _ A8.out).mono ?_);rintro e w' ⟨rfl,⟨nd,rfl⟩⟩;(try exact ⟨rfl,_,zN⟩)));try go_wp2_with (first|(go_at_call 142;(with_reducible refine (iG.calls (rd l0 qm) ac8 _ A8.out).mono ?_);rintro e w' ⟨rfl,⟨nd,rfl⟩⟩;(try exact ⟨rfl,_,zN⟩))))
          go_ret2
          exact ⟨_,zS,by first|exact Kd.kF _ _ _ _ _|exact Kd.oQ _ _ _ _ _|exact Kd.nN _ _ _ _ _|exact Kd.oU _ _ _ _ _|exact Kd.oK _ _ _ _ _,zB⟩
         ·rw [if_neg c9] at H
          have qO:=decide_eq_false c9
          clear c9
          have H':=aj.mk H
          clear H
          have afH:0≤(qm:Int):=of_decide_eq_true (by first|(with_reducible assumption)|assumption)
          have afI:qm < (l0.length:Int):=of_decide_eq_true (by first|(with_reducible assumption)|assumption)
          obtain ⟨auP,apn,zU⟩:=Kd.jF HR0.out qm afH afI
          cases apn
          replace zU:=(HB.out.cell (World.block_lt_of_cell? w _ zU)).trans zU
          replace afH:=eq_true afH
          replace afI:=eq_true afI
          go_wp2_with (first|(go_at_call 142;(with_reducible refine (iG.calls (rd l0 qm) ac8 _ A8.out).mono ?_);rintro e w' ⟨rfl,⟨nd,rfl⟩⟩;(try exact ⟨rfl,_,zN⟩)))
          repeat (go_quiet (first|(go_at_call 142;(with_reducible refine (iG.calls (rd l0 qm) ac8 _ A8.out).mono ?_);rintro e w' ⟨rfl,⟨nd,rfl⟩⟩;(try exact ⟨rfl,_,zN⟩)));try go_wp2_with (first|(go_at_call 142;(with_reducible refine (iG.calls (rd l0 qm) ac8 _ A8.out).mono ?_);rintro e w' ⟨rfl,⟨nd,rfl⟩⟩;(try exact ⟨rfl,_,zN⟩))))
          go_roundg k2
          case measure=>have:=HJ1.out;have:=HK2.out;omega
          case rel=>exact ⟨(wrap64 (qm+1)),zT,H',⟨by have:=HJ1.out;have:=HK2.out;omega⟩,⟨zB⟩⟩
        ·rw [if_neg c7] at H
         exact absurd H (by simp)
       ·rw [if_neg c6] at H
        exact absurd H (by simp)
      ·rw [if_neg c5] at H
       have iM:=decide_eq_false c5
       clear c5
       replace H:=zO H
       obtain ⟨qj,A10,H⟩:=H
       try dsimp only at H
       by_cases c11:qj < 268435456
       ·rw [if_pos c11] at H
        have iP:=decide_eq_true c11
        clear c11
        simp only [Option.some.injEq,Prod.mk.injEq] at H
        obtain ⟨rfl,rfl⟩:=H
        go_wp2_with (first|(go_at_call 143;(with_reducible refine (eY.calls k2 _ _ l0 qj _ ?iJ ?iK A10.out).mono ?_);(case iJ=>repeat (first|exact (Kd.bY HR0.out HB.out)|(with_reducible refine Kd.jg ?_ _)|(with_reducible refine Kd.jE ?_ _)|(with_reducible refine Kd.kJ ?_)));(case iK=>exact HC0.out);rintro e w' ⟨rfl,⟨nd,rfl⟩⟩;(try exact ⟨rfl,_,zN⟩)))
        repeat (go_quiet (first|(go_at_call 143;(with_reducible refine (eY.calls k2 _ _ l0 qj _ ?iJ ?iK A10.out).mono ?_);(case iJ=>repeat (first|exact (Kd.bY HR0.out HB.out)|(with_reducible refine Kd.jg ?_ _)|(with_reducible refine Kd.jE ?_ _)|(with_reducible refine Kd.kJ ?_)));(case iK=>exact HC0.out);rintro e w' ⟨rfl,⟨nd,rfl⟩⟩;(try exact ⟨rfl,_,zN⟩)));try go_wp2_with (first|(go_at_call 143;(with_reducible refine (eY.calls k2 _ _ l0 qj _ ?iJ ?iK A10.out).mono ?_);(case iJ=>repeat (first|exact (Kd.bY HR0.out HB.out)|(with_reducible refine Kd.jg ?_ _)|(with_reducible refine Kd.jE ?_ _)|(with_reducible refine Kd.kJ ?_)));(case iK=>exact HC0.out);rintro e w' ⟨rfl,⟨nd,rfl⟩⟩;(try exact ⟨rfl,_,zN⟩))))
        go_ret2
        exact ⟨_,zS,by first|exact Kd.kF _ _ _ _ _|exact Kd.oQ _ _ _ _ _|exact Kd.nN _ _ _ _ _|exact Kd.oU _ _ _ _ _|exact Kd.oK _ _ _ _ _,zB⟩
       ·rw [if_neg c11] at H
        have iP:=decide_eq_false c11
        clear c11
        have H':=aj.mk H
        clear H
        go_wp2_with (first|(go_at_call 143;(with_reducible refine (eY.calls k2 _ _ l0 qj _ ?iJ ?iK A10.out).mono ?_);(case iJ=>repeat (first|exact (Kd.bY HR0.out HB.out)|(with_reducible refine Kd.jg ?_ _)|(with_reducible refine Kd.jE ?_ _)|(with_reducible refine Kd.kJ ?_)));(case iK=>exact HC0.out);rintro e w' ⟨rfl,⟨nd,rfl⟩⟩;(try exact ⟨rfl,_,zN⟩)))
        repeat (go_quiet (first|(go_at_call 143;(with_reducible refine (eY.calls k2 _ _ l0 qj _ ?iJ ?iK A10.out).mono ?_);(case iJ=>repeat (first|exact (Kd.bY HR0.out HB.out)|(with_reducible refine Kd.jg ?_ _)|(with_reducible refine Kd.jE ?_ _)|(with_reducible refine Kd.kJ ?_)));(case iK=>exact HC0.out);rintro e w' ⟨rfl,⟨nd,rfl⟩⟩;(try exact ⟨rfl,_,zN⟩)));try go_wp2_with (first|(go_at_call 143;(with_reducible refine (eY.calls k2 _ _ l0 qj _ ?iJ ?iK A10.out).mono ?_);(case iJ=>repeat (first|exact (Kd.bY HR0.out HB.out)|(with_reducible refine Kd.jg ?_ _)|(with_reducible refine Kd.jE ?_ _)|(with_reducible refine Kd.kJ ?_)));(case iK=>exact HC0.out);rintro e w' ⟨rfl,⟨nd,rfl⟩⟩;(try exact ⟨rfl,_,zN⟩))))
        try simp only [Act.put,List.setIfInBounds_toArray,List.set_cons_succ,List.set_cons_zero]
        go_loopg [7,8,9,39] k2 (fun kq v7 v8 v9 v39 w'=>∃ (yQ:List Int) (abv:List Int) (afJ:Int) (oq:Int),v9 = .int .i64 afJ∧v39 = .int .i64 oq∧aj (aG.l1 kq qj yQ abv afJ l0 (l0.length:Int) oq=some (r1,r2))∧aj (kq≤k2)∧aj (Kd.R (Kd.int .i64) 2 w' w.heap.size (fun k_=>some k_≠(v8:Value).ownBlock) v7 yQ)∧aj (Kd.R (Kd.int .i64) 2 w' w.heap.size (fun k_=>some k_≠(v7:Value).ownBlock) v8 abv)∧aj (Below w.heap.size w w'))
        case atStart=>exact ⟨(([]:List Int)),(([]:List Int)),(16384),(0),zT,zT,H',⟨Nat.le_refl _⟩,⟨by first|exact Kd.kF _ _ _ _ _|exact Kd.oQ _ _ _ _ _|exact Kd.nN _ _ _ _ _|exact Kd.oU _ _ _ _ _|exact Kd.oK _ _ _ _ _⟩,⟨by first|exact Kd.kF _ _ _ _ _|exact Kd.oQ _ _ _ _ _|exact Kd.nN _ _ _ _ _|exact Kd.oU _ _ _ _ _|exact Kd.oK _ _ _ _ _⟩,⟨zB⟩⟩
        case round =>
         clear H'
         try clear hx3
         obtain ⟨yQ,abv,afJ,oq,rfl,rfl,HA,HK3,jo,dP,HB⟩:=hrel
         cases gk with
         | zero=>exact absurd HA.out (by simp [aG.l1])
         | succ k3 =>
          have H:=HA.out
          clear HA
          simp only [aG.l1] at H
          by_cases c12:oq < (l0.length:Int)
          ·rw [if_pos c12] at H
           have aa5:=decide_eq_true c12
           clear c12
           by_cases c13:0≤oq
           ·rw [if_pos c13] at H
            have abV:=decide_eq_true c13
            clear c13
            by_cases c14:oq < (l0.length:Int)
            ·rw [if_pos c14] at H
             have abW:=decide_eq_true c14
             clear c14
             replace H:=zO H
             obtain ⟨pU,A15,H⟩:=H
             try dsimp only at H
             by_cases c16:yQ.length < 17592186044416
             ·rw [if_pos c16] at H
              have amF:=aj.mk c16
              clear c16
              obtain ⟨apo,agG⟩:∃ y_:List Int,y_=(yQ ++ [pU]):=⟨_,rfl⟩
              replace H:(if abv.length < 17592186044416 then (aG.l1 k3 qj apo (abv ++ [wrap64 ((wrap64 ((rd l0 oq)*16384)) - (wrap64 (pU*qj)))]) (wrap64 (afJ - pU)) l0 (l0.length:Int) (wrap64 (oq+1))) else (none))=some (r1,r2):=by first|(rw [agG];with_reducible exact H)|(have H2_:=(Option.bind_some _ _).symm.trans H;rw [agG];with_reducible exact H2_)|(have H2_:=(Option.bind_some _ _).symm.trans H;with_reducible exact H2_)|with_reducible exact H|(rw [agG];exact H)|exact H
              have amG:=aj.mk agG
              clear agG
              by_cases c17:abv.length < 17592186044416
              ·rw [if_pos c17] at H
               have amH:=aj.mk c17
               clear c17
               obtain ⟨asQ,agH⟩:∃ y_:List Int,y_=(abv ++ [wrap64 ((wrap64 ((rd l0 oq)*16384)) - (wrap64 (pU*qj)))]):=⟨_,rfl⟩
               replace H:(aG.l1 k3 qj apo asQ (wrap64 (afJ - pU)) l0 (l0.length:Int) (wrap64 (oq+1)))=some (r1,r2):=by first|(rw [agH];with_reducible exact H)|(have H2_:=(Option.bind_some _ _).symm.trans H;rw [agH];with_reducible exact H2_)|(have H2_:=(Option.bind_some _ _).symm.trans H;with_reducible exact H2_)|with_reducible exact H|(rw [agH];exact H)|exact H
               have amI:=aj.mk agH
               clear agH
               have H':=aj.mk H
               clear H
               have apq:0≤(oq:Int):=of_decide_eq_true (by first|(with_reducible assumption)|assumption)
               have apr:oq < (l0.length:Int):=of_decide_eq_true (by first|(with_reducible assumption)|assumption)
               obtain ⟨aAc,avV,ahz⟩:=Kd.jF HR0.out oq apq apr
               cases avV
               replace ahz:=(HB.out.cell (World.block_lt_of_cell? w _ ahz)).trans ahz
               replace apq:=eq_true apq
               replace apr:=eq_true apr
               go_wp2_with (first|(go_at_call 144;(with_reducible refine (dV.calls k3 (wrap64 ((rd l0 oq)*16384)) qj pU _ A15.out).mono ?_);rintro e w18 ⟨rfl,hb⟩;obtain ⟨jo,dP,HB⟩:=zA3 (Kd.jQ (by (with_reducible repeat (first|apply Kd.aK|apply Kd.aQ|apply Kd.aW));exact jo.out) hb) (Kd.jQ (by (with_reducible repeat (first|apply Kd.aK|apply Kd.aQ|apply Kd.aW));exact dP.out) hb) (ak zB hb);(try clear hb))|((with_reducible refine jG (b := .append) (xs := #[.tmp 47,.tmp 49]) rfl ?_);(try (refine kG (by rfl) ?_;dsimp only));at_builtin;refine Kd.kZ (Kd.int .i64) (w0:=w) w.heap.size rfl (.tmp 47) (.tmp 49) 44 2 (.int .i64 0) 8 rfl Tryz.underlying44 vM rfl (by decide) (by omega) u7 yQ pU [.int .i64 pU] (fun k_=>some k_≠(u8:Value).ownBlock) (fun _=>False) rfl rfl ?aP (fun _ hk=>hk.elim) ?aF ?aO ?aB ?aS ?aL ?_;(case aP=>exact rfl);(case aB=>exact zB);(case aF=>exact (fun k_ hk=>Kd.fresh' (Kd.lg (by (with_reducible repeat (first|apply Kd.aK|apply Kd.aQ|apply Kd.aW));exact dP.out)) k_ hk));(case aO=>exact (by (with_reducible repeat (first|apply Kd.aK|apply Kd.aQ|apply Kd.aW));exact jo.out));(case aS=>exact (bF zB));(case aL=>have:=amF.out;omega);intro aj3 w19 ho hb hg hat;rw [← amG.out] at ho;obtain ⟨dP,HB,xK⟩:=zA3 (Kd.qU (ok:=(fun _=>True)) (by (with_reducible repeat (first|apply Kd.aK|apply Kd.aQ|apply Kd.aW));exact Kd.eF dP.out (fun _ hk=>⟨trivial,hk⟩)) hg hat) hb ho;clear ho hb hg hat)|((with_reducible refine jG (b := .append) (xs := #[.tmp 51,.tmp 58]) rfl ?_);(try (refine kG (by rfl) ?_;dsimp only));at_builtin;refine Kd.kZ (Kd.int .i64) (w0:=w) w.heap.size rfl (.tmp 51) (.tmp 58) 44 2 (.int .i64 0) 8 rfl Tryz.underlying44 vM rfl (by decide) (by omega) u8 abv (wrap64 ((wrap64 ((rd l0 oq)*16384)) - (wrap64 (pU*qj)))) [.int .i64 (wrap64 ((wrap64 ((rd l0 oq)*16384)) - (wrap64 (pU*qj))))] (fun k_=>some k_≠(aj3:Value).ownBlock) (fun _=>False) rfl rfl ?aP (fun _ hk=>hk.elim) ?aF ?aO ?aB ?aS ?aL ?_;(case aP=>exact rfl);(case aB=>exact zB);(case aF=>exact (fun k_ hk=>Kd.fresh' (Kd.lg (by (with_reducible repeat (first|apply Kd.aK|apply Kd.aQ|apply Kd.aW));exact xK.out)) k_ hk));(case aO=>exact (by (with_reducible repeat (first|apply Kd.aK|apply Kd.aQ|apply Kd.aW));exact Kd.eF dP.out (fun _ hk=>hk.2)));(case aS=>exact (bF zB));(case aL=>have:=amH.out;omega);intro asR w20 ho hb hg hat;rw [← amI.out] at ho;obtain ⟨xK,HB,amJ⟩:=zA3 (Kd.qU (ok:=(fun _=>True)) (by (with_reducible repeat (first|apply Kd.aK|apply Kd.aQ|apply Kd.aW));exact Kd.eF xK.out (fun _ hk=>⟨trivial,hk⟩)) hg hat) hb ho;clear ho hb hg hat))
               repeat (go_quiet (first|(go_at_call 144;(with_reducible refine (dV.calls k3 (wrap64 ((rd l0 oq)*16384)) qj pU _ A15.out).mono ?_);rintro e w18 ⟨rfl,hb⟩;obtain ⟨jo,dP,HB⟩:=zA3 (Kd.jQ (by (with_reducible repeat (first|apply Kd.aK|apply Kd.aQ|apply Kd.aW));exact jo.out) hb) (Kd.jQ (by (with_reducible repeat (first|apply Kd.aK|apply Kd.aQ|apply Kd.aW));exact dP.out) hb) (ak zB hb);(try clear hb))|((with_reducible refine jG (b := .append) (xs := #[.tmp 47,.tmp 49]) rfl ?_);(try (refine kG (by rfl) ?_;dsimp only));at_builtin;refine Kd.kZ (Kd.int .i64) (w0:=w) w.heap.size rfl (.tmp 47) (.tmp 49) 44 2 (.int .i64 0) 8 rfl Tryz.underlying44 vM rfl (by decide) (by omega) u7 yQ pU [.int .i64 pU] (fun k_=>some k_≠(u8:Value).ownBlock) (fun _=>False) rfl rfl ?aP (fun _ hk=>hk.elim) ?aF ?aO ?aB ?aS ?aL ?_;(case aP=>exact rfl);(case aB=>exact zB);(case aF=>exact (fun k_ hk=>Kd.fresh' (Kd.lg (by (with_reducible repeat (first|apply Kd.aK|apply Kd.aQ|apply Kd.aW));exact dP.out)) k_ hk));(case aO=>exact (by (with_reducible repeat (first|apply Kd.aK|apply Kd.aQ|apply Kd.aW));exact jo.out));(case aS=>exact (bF zB));(case aL=>have:=amF.out;omega);intro aj3 w19 ho hb hg hat;rw [← amG.out] at ho;obtain ⟨dP,HB,xK⟩:=zA3 (Kd.qU (ok:=(fun _=>True)) (by (with_reducible repeat (first|apply Kd.aK|apply Kd.aQ|apply Kd.aW));exact Kd.eF dP.out (fun _ hk=>⟨trivial,hk⟩)) hg hat) hb ho;clear ho hb hg hat)|((with_reducible refine jG (b := .append) (xs := #[.tmp 51,.tmp 58]) rfl ?_);(try (refine kG (by rfl) ?_;dsimp only));at_builtin;refine Kd.kZ (Kd.int .i64) (w0:=w) w.heap.size rfl (.tmp 51) (.tmp 58) 44 2 (.int .i64 0) 8 rfl Tryz.underlying44 vM rfl (by decide) (by omega) u8 abv (wrap64 ((wrap64 ((rd l0 oq)*16384)) - (wrap64 (pU*qj)))) [.int .i64 (wrap64 ((wrap64 ((rd l0 oq)*16384)) - (wrap64 (pU*qj))))] (fun k_=>some k_≠(aj3:Value).ownBlock) (fun _=>False) rfl rfl ?aP (fun _ hk=>hk.elim) ?aF ?aO ?aB ?aS ?aL ?_;(case aP=>exact rfl);(case aB=>exact zB);(case aF=>exact (fun k_ hk=>Kd.fresh' (Kd.lg (by (with_reducible repeat (first|apply Kd.aK|apply Kd.aQ|apply Kd.aW));exact xK.out)) k_ hk));(case aO=>exact (by (with_reducible repeat (first|apply Kd.aK|apply Kd.aQ|apply Kd.aW));exact Kd.eF dP.out (fun _ hk=>hk.2)));(case aS=>exact (bF zB));(case aL=>have:=amH.out;omega);intro asR w20 ho hb hg hat;rw [← amI.out] at ho;obtain ⟨xK,HB,amJ⟩:=zA3 (Kd.qU (ok:=(fun _=>True)) (by (with_reducible repeat (first|apply Kd.aK|apply Kd.aQ|apply Kd.aW));exact Kd.eF xK.out (fun _ hk=>⟨trivial,hk⟩)) hg hat) hb ho;clear ho hb hg hat));try go_wp2_with (first|(go_at_call 144;(with_reducible refine (dV.calls k3 (wrap64 ((rd l0 oq)*16384)) qj pU _ A15.out).mono ?_);rintro e w18 ⟨rfl,hb⟩;obtain ⟨jo,dP,HB⟩:=zA3 (Kd.jQ (by (with_reducible repeat (first|apply Kd.aK|apply Kd.aQ|apply Kd.aW));exact jo.out) hb) (Kd.jQ (by (with_reducible repeat (first|apply Kd.aK|apply Kd.aQ|apply Kd.aW));exact dP.out) hb) (ak zB hb);(try clear hb))|((with_reducible refine jG (b := .append) (xs := #[.tmp 47,.tmp 49]) rfl ?_);(try (refine kG (by rfl) ?_;dsimp only));at_builtin;refine Kd.kZ (Kd.int .i64) (w0:=w) w.heap.size rfl (.tmp 47) (.tmp 49) 44 2 (.int .i64 0) 8 rfl Tryz.underlying44 vM rfl (by decide) (by omega) u7 yQ pU [.int .i64 pU] (fun k_=>some k_≠(u8:Value).ownBlock) (fun _=>False) rfl rfl ?aP (fun _ hk=>hk.elim) ?aF ?aO ?aB ?aS ?aL ?_;(case aP=>exact rfl);(case aB=>exact zB);(case aF=>exact (fun k_ hk=>Kd.fresh' (Kd.lg (by (with_reducible repeat (first|apply Kd.aK|apply Kd.aQ|apply Kd.aW));exact dP.out)) k_ hk));(case aO=>exact (by (with_reducible repeat (first|apply Kd.aK|apply Kd.aQ|apply Kd.aW));exact jo.out));(case aS=>exact (bF zB));(case aL=>have:=amF.out;omega);intro aj3 w19 ho hb hg hat;rw [← amG.out] at ho;obtain ⟨dP,HB,xK⟩:=zA3 (Kd.qU (ok:=(fun _=>True)) (by (with_reducible repeat (first|apply Kd.aK|apply Kd.aQ|apply Kd.aW));exact Kd.eF dP.out (fun _ hk=>⟨trivial,hk⟩)) hg hat) hb ho;clear ho hb hg hat)|((with_reducible refine jG (b := .append) (xs := #[.tmp 51,.tmp 58]) rfl ?_);(try (refine kG (by rfl) ?_;dsimp only));at_builtin;refine Kd.kZ (Kd.int .i64) (w0:=w) w.heap.size rfl (.tmp 51) (.tmp 58) 44 2 (.int .i64 0) 8 rfl Tryz.underlying44 vM rfl (by decide) (by omega) u8 abv (wrap64 ((wrap64 ((rd l0 oq)*16384)) - (wrap64 (pU*qj)))) [.int .i64 (wrap64 ((wrap64 ((rd l0 oq)*16384)) - (wrap64 (pU*qj))))] (fun k_=>some k_≠(aj3:Value).ownBlock) (fun _=>False) rfl rfl ?aP (fun _ hk=>hk.elim) ?aF ?aO ?aB ?aS ?aL ?_;(case aP=>exact rfl);(case aB=>exact zB);(case aF=>exact (fun k_ hk=>Kd.fresh' (Kd.lg (by (with_reducible repeat (first|apply Kd.aK|apply Kd.aQ|apply Kd.aW));exact xK.out)) k_ hk));(case aO=>exact (by (with_reducible repeat (first|apply Kd.aK|apply Kd.aQ|apply Kd.aW));exact Kd.eF dP.out (fun _ hk=>hk.2)));(case aS=>exact (bF zB));(case aL=>have:=amH.out;omega);intro asR w20 ho hb hg hat;rw [← amI.out] at ho;obtain ⟨xK,HB,amJ⟩:=zA3 (Kd.qU (ok:=(fun _=>True)) (by (with_reducible repeat (first|apply Kd.aK|apply Kd.aQ|apply Kd.aW));exact Kd.eF xK.out (fun _ hk=>⟨trivial,hk⟩)) hg hat) hb ho;clear ho hb hg hat)))
               go_roundg k3
               case measure=>have:=HJ1.out;have:=HK2.out;have:=HK3.out;omega
               case rel=>exact ⟨(apo),(asQ),(wrap64 (afJ - pU)),(wrap64 (oq+1)),zT,zT,H',⟨by have:=HJ1.out;have:=HK2.out;have:=HK3.out;omega⟩,⟨by (with_reducible repeat (first|apply Kd.aK|apply Kd.aQ|apply Kd.aW));exact Kd.eF xK.out (fun _ hk=>hk.2)⟩,⟨by (with_reducible repeat (first|apply Kd.aK|apply Kd.aQ|apply Kd.aW));exact amJ.out⟩,⟨zB⟩⟩
              ·rw [if_neg c17] at H
               exact absurd H (by simp)
             ·rw [if_neg c16] at H
              exact absurd H (by simp)
            ·rw [if_neg c14] at H
             exact absurd H (by simp)
           ·rw [if_neg c13] at H
            exact absurd H (by simp)
          ·rw [if_neg c12] at H
           have aa5:=decide_eq_false c12
           clear c12
           have H':=aj.mk H
           clear H
           go_wp2
           repeat (go_quiet (fail);try go_wp2)
           try simp only [Act.put,List.setIfInBounds_toArray,List.set_cons_succ,List.set_cons_zero]
           go_loopg [9] k3 (fun kq v9 w'=>∃ (lG:List Int) (kX:List Int) (ael:Int),v9 = .int .i64 ael∧aj (aG.l2 kq lG kX ael=some (r1,r2))∧aj (kq≤k3)∧aj (Kd.R (Kd.int .i64) 2 w' w.heap.size (fun k_=>some k_≠(u8:Value).ownBlock) u7 lG)∧aj (Kd.R (Kd.int .i64) 2 w' w.heap.size (fun k_=>some k_≠(u7:Value).ownBlock) u8 kX)∧aj (Below w.heap.size w w'))
           case atStart=>exact ⟨(yQ),(abv),(afJ),zT,H',⟨Nat.le_refl _⟩,⟨by (with_reducible repeat (first|apply Kd.aK|apply Kd.aQ|apply Kd.aW));exact jo.out⟩,⟨by (with_reducible repeat (first|apply Kd.aK|apply Kd.aQ|apply Kd.aW));exact dP.out⟩,⟨zB⟩⟩
           case round =>
            clear H'
            try clear hx3
            obtain ⟨lG,kX,ael,rfl,HA,HK4,jo,dP,HB⟩:=hrel
            cases gk with
            | zero=>exact absurd HA.out (by simp [aG.l2])
            | succ k4 =>
             have H:=HA.out
             clear HA
             simp only [aG.l2] at H
             by_cases c21:ael > 0
             ·rw [if_pos c21] at H
              have ac9:=decide_eq_true c21
              clear c21
              have H':=aj.mk H
              clear H
              obtain ⟨afK,wU,aps⟩:=Kd.gB dP.out
              subst aps
              go_wp2
              repeat (go_quiet (fail);try go_wp2)
              try simp only [Act.put,List.setIfInBounds_toArray,List.set_cons_succ,List.set_cons_zero]
              go_loopg [13,68] k4 (fun kq v13 v68 w'=>∃ (fJ:Int) (sN:Int),v13 = .int .i64 fJ∧v68 = .int .i64 sN∧aj (aG.l3 kq lG kX ael fJ (kX.length:Int) sN=some (r1,r2))∧aj (kq≤k4)∧aj (Kd.R (Kd.int .i64) 2 w' w.heap.size (fun k_=>some k_≠((.slice afK kX.length wU):Value).ownBlock) u7 lG)∧aj (Kd.R (Kd.int .i64) 2 w' w.heap.size (fun k_=>some k_≠(u7:Value).ownBlock) (.slice afK kX.length wU) kX)∧aj (Below w.heap.size w w'))
              case atStart=>exact ⟨(0),(0),zT,zT,H',⟨Nat.le_refl _⟩,⟨by (with_reducible repeat (first|apply Kd.aK|apply Kd.aQ|apply Kd.aW));exact jo.out⟩,⟨by (with_reducible repeat (first|apply Kd.aK|apply Kd.aQ|apply Kd.aW));exact dP.out⟩,⟨zB⟩⟩
              case round =>
               clear H'
               try clear hx3
               obtain ⟨fJ,sN,rfl,rfl,HA,HK5,jo,dP,HB⟩:=hrel
               cases gk with
               | zero=>exact absurd HA.out (by simp [aG.l3])
               | succ k5 =>
                have H:=HA.out
                clear HA
                simp only [aG.l3] at H
                by_cases c23:sN < (kX.length:Int)
                ·rw [if_pos c23] at H
                 have amK:=decide_eq_true c23
                 clear c23
                 by_cases c24:0≤sN
                 ·rw [if_pos c24] at H
                  have auQ:=decide_eq_true c24
                  clear c24
                  by_cases c25:sN < (kX.length:Int)
                  ·rw [if_pos c25] at H
                   have aAd:=decide_eq_true c25
                   clear c25
                   by_cases c26:0≤fJ
                   ·rw [if_pos c26] at H
                    have aeZ:=decide_eq_true c26
                    clear c26
                    by_cases c27:fJ < (kX.length:Int)
                    ·rw [if_pos c27] at H
                     have aAe:=decide_eq_true c27
                     clear c27
                     by_cases c28:(rd kX sN) > (rd kX fJ)
                     ·rw [if_pos c28] at H
                      have amL:=decide_eq_true c28
                      clear c28
                      have H':=aj.mk H
                      clear H
                      have afL:0≤(sN:Int):=of_decide_eq_true (by first|(with_reducible assumption)|assumption)
                      have afM:sN < (kX.length:Int):=of_decide_eq_true (by first|(with_reducible assumption)|assumption)
                      obtain ⟨amM,apt,arN⟩:=Kd.jF (Kd.dM dP.out).2.2 sN afL afM
                      cases apt
                      replace afL:=eq_true afL
                      replace afM:=eq_true afM
                      have afN:0≤(fJ:Int):=of_decide_eq_true (by first|(with_reducible assumption)|assumption)
                      have afO:fJ < (kX.length:Int):=of_decide_eq_true (by first|(with_reducible assumption)|assumption)
                      obtain ⟨amN,apu,arO⟩:=Kd.jF (Kd.dM dP.out).2.2 fJ afN afO
                      obtain rfl:amM=amN:=(by injection apu)
                      replace afN:=eq_true afN
                      replace afO:=eq_true afO
                      go_wp2
                      repeat (go_quiet (fail);try go_wp2)
                      go_roundg k5
                      case measure=>have:=HJ1.out;have:=HK2.out;have:=HK3.out;have:=HK4.out;have:=HK5.out;omega
                      case rel=>exact ⟨(sN),(wrap64 (sN+1)),zT,zT,H',⟨by have:=HJ1.out;have:=HK2.out;have:=HK3.out;have:=HK4.out;have:=HK5.out;omega⟩,⟨by (with_reducible repeat (first|apply Kd.aK|apply Kd.aQ|apply Kd.aW));exact jo.out⟩,⟨by (with_reducible repeat (first|apply Kd.aK|apply Kd.aQ|apply Kd.aW));exact dP.out⟩,⟨zB⟩⟩
                     ·rw [if_neg c28] at H
                      have amL:=decide_eq_false c28
                      clear c28
                      have H':=aj.mk H
                      clear H
                      have afL:0≤(sN:Int):=of_decide_eq_true (by first|(with_reducible assumption)|assumption)
                      have afM:sN < (kX.length:Int):=of_decide_eq_true (by first|(with_reducible assumption)|assumption)
                      obtain ⟨amM,apt,arN⟩:=Kd.jF (Kd.dM dP.out).2.2 sN afL afM
                      cases apt
                      replace afL:=eq_true afL
                      replace afM:=eq_true afM
                      have afN:0≤(fJ:Int):=of_decide_eq_true (by first|(with_reducible assumption)|assumption)
                      have afO:fJ < (kX.length:Int):=of_decide_eq_true (by first|(with_reducible assumption)|assumption)
                      obtain ⟨amN,apu,arO⟩:=Kd.jF (Kd.dM dP.out).2.2 fJ afN afO
                      obtain rfl:amM=amN:=(by injection apu)
                      replace afN:=eq_true afN
                      replace afO:=eq_true afO
                      go_wp2
                      repeat (go_quiet (fail);try go_wp2)
                      go_roundg k5
                      case measure=>have:=HJ1.out;have:=HK2.out;have:=HK3.out;have:=HK4.out;have:=HK5.out;omega
                      case rel=>exact ⟨(fJ),(wrap64 (sN+1)),zT,zT,H',⟨by have:=HJ1.out;have:=HK2.out;have:=HK3.out;have:=HK4.out;have:=HK5.out;omega⟩,⟨by (with_reducible repeat (first|apply Kd.aK|apply Kd.aQ|apply Kd.aW));exact jo.out⟩,⟨by (with_reducible repeat (first|apply Kd.aK|apply Kd.aQ|apply Kd.aW));exact dP.out⟩,⟨zB⟩⟩
                    ·rw [if_neg c27] at H
                     exact absurd H (by simp)
                   ·rw [if_neg c26] at H
                    exact absurd H (by simp)
                  ·rw [if_neg c25] at H
                   exact absurd H (by simp)
                 ·rw [if_neg c24] at H
                  exact absurd H (by simp)
                ·rw [if_neg c23] at H
                 have amK:=decide_eq_false c23
                 clear c23
                 by_cases c29:0≤fJ
                 ·rw [if_pos c29] at H
                  have amm:=decide_eq_true c29
                  clear c29
                  by_cases c30:fJ < (lG.length:Int)
                  ·rw [if_pos c30] at H
                   have aq0:=decide_eq_true c30
                   clear c30
                   obtain ⟨ahA,agI⟩:∃ y_:List Int,y_=(lG.set (fJ:Int).toNat (wrap64 ((rd lG fJ)+1))):=⟨_,rfl⟩
                   replace H:(if fJ < (kX.length:Int) then (aG.l2 k5 ahA (kX.set (fJ:Int).toNat (-1)) (wrap64 (ael - 1))) else (none))=some (r1,r2):=by first|(rw [agI];with_reducible exact H)|(have H2_:=(Option.bind_some _ _).symm.trans H;rw [agI];with_reducible exact H2_)|(have H2_:=(Option.bind_some _ _).symm.trans H;with_reducible exact H2_)|with_reducible exact H|(rw [agI];exact H)|exact H
                   have amO:=aj.mk agI
                   clear agI
                   by_cases c32:fJ < (kX.length:Int)
                   ·rw [if_pos c32] at H
                    have aAf:=decide_eq_true c32
                    clear c32
                    obtain ⟨aj6,agJ⟩:∃ y_:List Int,y_=(kX.set (fJ:Int).toNat (-1)):=⟨_,rfl⟩
                    replace H:(aG.l2 k5 ahA aj6 (wrap64 (ael - 1)))=some (r1,r2):=by first|(rw [agJ];with_reducible exact H)|(have H2_:=(Option.bind_some _ _).symm.trans H;rw [agJ];with_reducible exact H2_)|(have H2_:=(Option.bind_some _ _).symm.trans H;with_reducible exact H2_)|with_reducible exact H|(rw [agJ];exact H)|exact H
                    have amP:=aj.mk agJ
                    clear agJ
                    have H':=aj.mk H
                    clear H
                    obtain ⟨avW,uI,apv⟩:=Kd.gB jo.out
                    subst apv
                    have apw:0≤(fJ:Int):=of_decide_eq_true (by first|(with_reducible assumption)|assumption)
                    have apx:fJ < (lG.length:Int):=of_decide_eq_true (by first|(with_reducible assumption)|assumption)
                    obtain ⟨aAg,avX,arP⟩:=Kd.jF (Kd.dM jo.out).2.2 fJ apw apx
                    cases avX
                    replace apw:=eq_true apw
                    replace apx:=eq_true apx
                    have p31:0≤(fJ:Int):=of_decide_eq_true (by first|(with_reducible assumption)|assumption)
                    have q31:(fJ:Int) < ((lG.length:Int):Int):=of_decide_eq_true (by first|(with_reducible assumption)|assumption)
                    obtain ⟨qo,aA9,asT,asU,avY,aBa,asV⟩:=Kd.agh jo.out (by omega)
                    (first|cases asT|(injection asT with ea_ en_ ec_;(first|subst ea_|(injection ea_ with ea_;subst ea_));subst ec_;clear en_))
                    have apy:=aj.mk asU
                    have aBb:=aj.mk asV
                    clear asU avY asV
                    (first|simp only [add_plain] at arP|skip)
                    obtain ⟨ax8,ax9⟩:=Kd.uZ 0 jo.out (fJ:Int) p31 q31
                    replace p31:=eq_true p31
                    replace q31:=eq_true q31
                    have aaW:=Kd.xu jo.out (fJ:Int) (wrap64 ((rd lG fJ)+1))
                    go_wp2_with (first|((with_reducible refine wL (t:=2) (p:=87) rfl ?_);(try (rw [nU wr];generalize hq_:World.drewN wr _=wr;obtain ⟨jo,dP,HB⟩:=zA3 (Kd.abw hq_ jo.out) (Kd.abw hq_ dP.out) (abx hq_ HB.out);(try (have aaW:=Kd.xu jo.out (fJ:Int) (wrap64 ((rd lG fJ)+1))))));refine vg (t:=2) (p:=87) (v := ?anU) (w1:=(wr.setCell ⟨qo,(fJ:Int).toNat,none⟩ (.int .i64 (wrap64 ((rd lG fJ)+1))))) ?hg ?ho ?hn ?hr ?_;(case ho=>rfl);(case hg=>rfl);(case hn=>rfl);(case hr=>first|(go_simp;done)|(go_simp;rfl));intro w36 hw;have hg:wr.grownBy w36 (some qo):=(by rw [hw];exact aaW.2);have hp_:Kd.R (Kd.int .i64) 2 w36 w.heap.size (fun k_=>some k_≠(.slice afK kX.length wU:Value).ownBlock) (.slice (some ⟨qo,0,none⟩) lG.length uI) ahA:=(by rw [hw,amO.out];exact aaW.1);clear aaW;obtain ⟨jo,dP,HB⟩:=zA3 hp_ (Kd.qU (v:=(.slice (some ⟨qo,0,none⟩) lG.length uI)) (v1:=(.slice (some ⟨qo,0,none⟩) lG.length uI)) (ok:=(fun _=>True)) (by (with_reducible repeat (first|apply Kd.aK|apply Kd.aQ|apply Kd.aW));exact Kd.eF dP.out (fun _ hk=>⟨trivial,hk⟩)) hg (.inl rfl)) ((by rw [hw];exact qY (HB.out) apy.out:Below w.heap.size w w36));clear hg hw hp_;have p33:0≤(fJ:Int):=of_decide_eq_true (by first|(with_reducible assumption)|assumption);have q33:(fJ:Int) < ((kX.length:Int):Int):=of_decide_eq_true (by first|(with_reducible assumption)|assumption);obtain ⟨wJ,apz,acj,aem,aj7,asW,aen⟩:=Kd.agh dP.out (by omega);(first|cases acj|(injection acj with ea_ en_ ec_;(first|subst ea_|(injection ea_ with ea_;subst ea_));subst ec_;clear en_));have aj8:=aj.mk aem;have asX:=aj.mk aen;clear aem aj7 aen;obtain ⟨anV,anW⟩:=Kd.uZ 0 dP.out (fJ:Int) p33 q33;replace p33:=eq_true p33;replace q33:=eq_true q33;have n_:=aj.mk (Kd.eF (ok':=(fun k_=>some k_≠(.slice (some ⟨qo,0,none⟩) lG.length uI:Value).ownBlock)) dP.out (fun k_ hk=>hk.2));clear dP;have dP:=n_;clear n_;obtain ⟨agK,agL⟩:=Kd.uZ 0 dP.out (fJ:Int) (of_decide_eq_true (by first|(with_reducible assumption)|assumption)) (of_decide_eq_true (by first|(with_reducible assumption)|assumption));have yR:=Kd.xu dP.out (fJ:Int) (-1))|((with_reducible refine wL (t:=2) (p:=90) rfl ?_);(try (rw [nU w36];generalize hq_:World.drewN w36 _=w36;obtain ⟨jo,dP,HB⟩:=zA3 (Kd.abw hq_ jo.out) (Kd.abw hq_ dP.out) (abx hq_ HB.out);(try (have n_:=aj.mk (Kd.eF (ok':=(fun k_=>some k_≠(.slice (some ⟨qo,0,none⟩) lG.length uI:Value).ownBlock)) dP.out (fun k_ hk=>hk.2));clear dP;have dP:=n_;clear n_));(try (obtain ⟨agK,agL⟩:=Kd.uZ 0 dP.out (fJ:Int) (of_decide_eq_true (by first|(with_reducible assumption)|assumption)) (of_decide_eq_true (by first|(with_reducible assumption)|assumption))));(try (have yR:=Kd.xu dP.out (fJ:Int) (-1)))));refine vg (t:=2) (p:=90) (v := ?anX) (w1:=(w36.setCell ⟨wJ,(fJ:Int).toNat,none⟩ (.int .i64 (-1)))) ?hg ?ho ?hn ?hr ?_;(case ho=>rfl);(case hg=>rfl);(case hn=>rfl);(case hr=>first|(go_simp;done)|(go_simp;rfl));intro w38 hw;have hg:w36.grownBy w38 (some wJ):=(by rw [hw];exact yR.2);have hp_:Kd.R (Kd.int .i64) 2 w38 w.heap.size (fun k_=>some k_≠(.slice (some ⟨qo,0,none⟩) lG.length uI:Value).ownBlock) (.slice (some ⟨wJ,0,none⟩) kX.length wU) aj6:=(by rw [hw,amP.out];exact yR.1);clear yR;obtain ⟨jo,dP,HB⟩:=zA3 (Kd.qU (v:=(.slice (some ⟨wJ,0,none⟩) kX.length wU)) (v1:=(.slice (some ⟨wJ,0,none⟩) kX.length wU)) (ok:=(fun _=>True)) (by (with_reducible repeat (first|apply Kd.aK|apply Kd.aQ|apply Kd.aW));exact Kd.eF jo.out (fun _ hk=>⟨trivial,hk⟩)) hg (.inl rfl)) hp_ ((by rw [hw];exact qY (HB.out) aj8.out:Below w.heap.size w w38));clear hg hw hp_))
                    repeat (go_quiet (first|((with_reducible refine wL (t:=2) (p:=87) rfl ?_);(try (rw [nU wr];generalize hq_:World.drewN wr _=wr;obtain ⟨jo,dP,HB⟩:=zA3 (Kd.abw hq_ jo.out) (Kd.abw hq_ dP.out) (abx hq_ HB.out);(try (have aaW:=Kd.xu jo.out (fJ:Int) (wrap64 ((rd lG fJ)+1))))));refine vg (t:=2) (p:=87) (v := ?anU) (w1:=(wr.setCell ⟨qo,(fJ:Int).toNat,none⟩ (.int .i64 (wrap64 ((rd lG fJ)+1))))) ?hg ?ho ?hn ?hr ?_;(case ho=>rfl);(case hg=>rfl);(case hn=>rfl);(case hr=>first|(go_simp;done)|(go_simp;rfl));intro w36 hw;have hg:wr.grownBy w36 (some qo):=(by rw [hw];exact aaW.2);have hp_:Kd.R (Kd.int .i64) 2 w36 w.heap.size (fun k_=>some k_≠(.slice afK kX.length wU:Value).ownBlock) (.slice (some ⟨qo,0,none⟩) lG.length uI) ahA:=(by rw [hw,amO.out];exact aaW.1);clear aaW;obtain ⟨jo,dP,HB⟩:=zA3 hp_ (Kd.qU (v:=(.slice (some ⟨qo,0,none⟩) lG.length uI)) (v1:=(.slice (some ⟨qo,0,none⟩) lG.length uI)) (ok:=(fun _=>True)) (by (with_reducible repeat (first|apply Kd.aK|apply Kd.aQ|apply Kd.aW));exact Kd.eF dP.out (fun _ hk=>⟨trivial,hk⟩)) hg (.inl rfl)) ((by rw [hw];exact qY (HB.out) apy.out:Below w.heap.size w w36));clear hg hw hp_;have p33:0≤(fJ:Int):=of_decide_eq_true (by first|(with_reducible assumption)|assumption);have q33:(fJ:Int) < ((kX.length:Int):Int):=of_decide_eq_true (by first|(with_reducible assumption)|assumption);obtain ⟨wJ,apz,acj,aem,aj7,asW,aen⟩:=Kd.agh dP.out (by omega);(first|cases acj|(injection acj with ea_ en_ ec_;(first|subst ea_|(injection ea_ with ea_;subst ea_));subst ec_;clear en_));have aj8:=aj.mk aem;have asX:=aj.mk aen;clear aem aj7 aen;obtain ⟨anV,anW⟩:=Kd.uZ 0 dP.out (fJ:Int) p33 q33;replace p33:=eq_true p33;replace q33:=eq_true q33;have n_:=aj.mk (Kd.eF (ok':=(fun k_=>some k_≠(.slice (some ⟨qo,0,none⟩) lG.length uI:Value).ownBlock)) dP.out (fun k_ hk=>hk.2));clear dP;have dP:=n_;clear n_;obtain ⟨agK,agL⟩:=Kd.uZ 0 dP.out (fJ:Int) (of_decide_eq_true (by first|(with_reducible assumption)|assumption)) (of_decide_eq_true (by first|(with_reducible assumption)|assumption));have yR:=Kd.xu dP.out (fJ:Int) (-1))|((with_reducible refine wL (t:=2) (p:=90) rfl ?_);(try (rw [nU w36];generalize hq_:World.drewN w36 _=w36;obtain ⟨jo,dP,HB⟩:=zA3 (Kd.abw hq_ jo.out) (Kd.abw hq_ dP.out) (abx hq_ HB.out);(try (have n_:=aj.mk (Kd.eF (ok':=(fun k_=>some k_≠(.slice (some ⟨qo,0,none⟩) lG.length uI:Value).ownBlock)) dP.out (fun k_ hk=>hk.2));clear dP;have dP:=n_;clear n_));(try (obtain ⟨agK,agL⟩:=Kd.uZ 0 dP.out (fJ:Int) (of_decide_eq_true (by first|(with_reducible assumption)|assumption)) (of_decide_eq_true (by first|(with_reducible assumption)|assumption))));(try (have yR:=Kd.xu dP.out (fJ:Int) (-1)))));refine vg (t:=2) (p:=90) (v := ?anX) (w1:=(w36.setCell ⟨wJ,(fJ:Int).toNat,none⟩ (.int .i64 (-1)))) ?hg ?ho ?hn ?hr ?_;(case ho=>rfl);(case hg=>rfl);(case hn=>rfl);(case hr=>first|(go_simp;done)|(go_simp;rfl));intro w38 hw;have hg:w36.grownBy w38 (some wJ):=(by rw [hw];exact yR.2);have hp_:Kd.R (Kd.int .i64) 2 w38 w.heap.size (fun k_=>some k_≠(.slice (some ⟨qo,0,none⟩) lG.length uI:Value).ownBlock) (.slice (some ⟨wJ,0,none⟩) kX.length wU) aj6:=(by rw [hw,amP.out];exact yR.1);clear yR;obtain ⟨jo,dP,HB⟩:=zA3 (Kd.qU (v:=(.slice (some ⟨wJ,0,none⟩) kX.length wU)) (v1:=(.slice (some ⟨wJ,0,none⟩) kX.length wU)) (ok:=(fun _=>True)) (by (with_reducible repeat (first|apply Kd.aK|apply Kd.aQ|apply Kd.aW));exact Kd.eF jo.out (fun _ hk=>⟨trivial,hk⟩)) hg (.inl rfl)) hp_ ((by rw [hw];exact qY (HB.out) aj8.out:Below w.heap.size w w38));clear hg hw hp_));try go_wp2_with (first|((with_reducible refine wL (t:=2) (p:=87) rfl ?_);(try (rw [nU wr];generalize hq_:World.drewN wr _=wr;obtain ⟨jo,dP,HB⟩:=zA3 (Kd.abw hq_ jo.out) (Kd.abw hq_ dP.out) (abx hq_ HB.out);(try (have aaW:=Kd.xu jo.out (fJ:Int) (wrap64 ((rd lG fJ)+1))))));refine vg (t:=2) (p:=87) (v := ?anU) (w1:=(wr.setCell ⟨qo,(fJ:Int).toNat,none⟩ (.int .i64 (wrap64 ((rd lG fJ)+1))))) ?hg ?ho ?hn ?hr ?_;(case ho=>rfl);(case hg=>rfl);(case hn=>rfl);(case hr=>first|(go_simp;done)|(go_simp;rfl));intro w36 hw;have hg:wr.grownBy w36 (some qo):=(by rw [hw];exact aaW.2);have hp_:Kd.R (Kd.int .i64) 2 w36 w.heap.size (fun k_=>some k_≠(.slice afK kX.length wU:Value).ownBlock) (.slice (some ⟨qo,0,none⟩) lG.length uI) ahA:=(by rw [hw,amO.out];exact aaW.1);clear aaW;obtain ⟨jo,dP,HB⟩:=zA3 hp_ (Kd.qU (v:=(.slice (some ⟨qo,0,none⟩) lG.length uI)) (v1:=(.slice (some ⟨qo,0,none⟩) lG.length uI)) (ok:=(fun _=>True)) (by (with_reducible repeat (first|apply Kd.aK|apply Kd.aQ|apply Kd.aW));exact Kd.eF dP.out (fun _ hk=>⟨trivial,hk⟩)) hg (.inl rfl)) ((by rw [hw];exact qY (HB.out) apy.out:Below w.heap.size w w36));clear hg hw hp_;have p33:0≤(fJ:Int):=of_decide_eq_true (by first|(with_reducible assumption)|assumption);have q33:(fJ:Int) < ((kX.length:Int):Int):=of_decide_eq_true (by first|(with_reducible assumption)|assumption);obtain ⟨wJ,apz,acj,aem,aj7,asW,aen⟩:=Kd.agh dP.out (by omega);(first|cases acj|(injection acj with ea_ en_ ec_;(first|subst ea_|(injection ea_ with ea_;subst ea_));subst ec_;clear en_));have aj8:=aj.mk aem;have asX:=aj.mk aen;clear aem aj7 aen;obtain ⟨anV,anW⟩:=Kd.uZ 0 dP.out (fJ:Int) p33 q33;replace p33:=eq_true p33;replace q33:=eq_true q33;have n_:=aj.mk (Kd.eF (ok':=(fun k_=>some k_≠(.slice (some ⟨qo,0,none⟩) lG.length uI:Value).ownBlock)) dP.out (fun k_ hk=>hk.2));clear dP;have dP:=n_;clear n_;obtain ⟨agK,agL⟩:=Kd.uZ 0 dP.out (fJ:Int) (of_decide_eq_true (by first|(with_reducible assumption)|assumption)) (of_decide_eq_true (by first|(with_reducible assumption)|assumption));have yR:=Kd.xu dP.out (fJ:Int) (-1))|((with_reducible refine wL (t:=2) (p:=90) rfl ?_);(try (rw [nU w36];generalize hq_:World.drewN w36 _=w36;obtain ⟨jo,dP,HB⟩:=zA3 (Kd.abw hq_ jo.out) (Kd.abw hq_ dP.out) (abx hq_ HB.out);(try (have n_:=aj.mk (Kd.eF (ok':=(fun k_=>some k_≠(.slice (some ⟨qo,0,none⟩) lG.length uI:Value).ownBlock)) dP.out (fun k_ hk=>hk.2));clear dP;have dP:=n_;clear n_));(try (obtain ⟨agK,agL⟩:=Kd.uZ 0 dP.out (fJ:Int) (of_decide_eq_true (by first|(with_reducible assumption)|assumption)) (of_decide_eq_true (by first|(with_reducible assumption)|assumption))));(try (have yR:=Kd.xu dP.out (fJ:Int) (-1)))));refine vg (t:=2) (p:=90) (v := ?anX) (w1:=(w36.setCell ⟨wJ,(fJ:Int).toNat,none⟩ (.int .i64 (-1)))) ?hg ?ho ?hn ?hr ?_;(case ho=>rfl);(case hg=>rfl);(case hn=>rfl);(case hr=>first|(go_simp;done)|(go_simp;rfl));intro w38 hw;have hg:w36.grownBy w38 (some wJ):=(by rw [hw];exact yR.2);have hp_:Kd.R (Kd.int .i64) 2 w38 w.heap.size (fun k_=>some k_≠(.slice (some ⟨qo,0,none⟩) lG.length uI:Value).ownBlock) (.slice (some ⟨wJ,0,none⟩) kX.length wU) aj6:=(by rw [hw,amP.out];exact yR.1);clear yR;obtain ⟨jo,dP,HB⟩:=zA3 (Kd.qU (v:=(.slice (some ⟨wJ,0,none⟩) kX.length wU)) (v1:=(.slice (some ⟨wJ,0,none⟩) kX.length wU)) (ok:=(fun _=>True)) (by (with_reducible repeat (first|apply Kd.aK|apply Kd.aQ|apply Kd.aW));exact Kd.eF jo.out (fun _ hk=>⟨trivial,hk⟩)) hg (.inl rfl)) hp_ ((by rw [hw];exact qY (HB.out) aj8.out:Below w.heap.size w w38));clear hg hw hp_)))
                    go_roundg k5
                    case measure=>have:=HJ1.out;have:=HK2.out;have:=HK3.out;have:=HK4.out;have:=HK5.out;omega
                    case rel=>exact ⟨(ahA),(aj6),(wrap64 (ael - 1)),zT,H',⟨by have:=HJ1.out;have:=HK2.out;have:=HK3.out;have:=HK4.out;have:=HK5.out;omega⟩,⟨by (with_reducible repeat (first|apply Kd.aK|apply Kd.aQ|apply Kd.aW));exact Kd.eF jo.out (fun _ hk=>hk.2)⟩,⟨by (with_reducible repeat (first|apply Kd.aK|apply Kd.aQ|apply Kd.aW));exact dP.out⟩,⟨zB⟩⟩
                   ·rw [if_neg c32] at H
                    exact absurd H (by simp)
                  ·rw [if_neg c30] at H
                   exact absurd H (by simp)
                 ·rw [if_neg c29] at H
                  exact absurd H (by simp)
             ·rw [if_neg c21] at H
              have ac9:=decide_eq_false c21
              clear c21
              simp only [Option.some.injEq,Prod.mk.injEq] at H
              obtain ⟨rfl,rfl⟩:=H
              go_wp2
              repeat (go_quiet (fail);try go_wp2)
              go_ret2
              exact ⟨_,zS,by (with_reducible repeat (first|apply Kd.aK|apply Kd.aQ|apply Kd.aW));exact Kd.eF jo.out (fun _ hk=>trivial),zB⟩
end Go.Proofs.YtpondkggmcmpfaaGreatDoor.QA
namespace Go.Proofs.YtpondkggmcmpfaaGreatDoor.QA
open Go.Proofs.YtpondkggmcmpfaaGreatDoor.T
open Go.RowKit Go.Proofs.YtpondkggmcmpfaaGreatDoorW.PrintWords Go.Proofs.YtpondkggmcmpfaaGreatDoorW.PrintLast Go.Proofs.YtpondkggmcmpfaaGreatDoorW.PrintMore
attribute [local go_sem] dY dS dU fA fB
set_option linter.unusedVariables false
set_option linter.unusedSimpArgs false
mutual
def bU.j0:Nat→Int→Int→Int→Bool→Option ((List (mG)) × Int)
 | 0,_,_,_,_=>none
 | k+1,x0,x1,x2,x29=>if x29=true then (some (([]:List (mG)),6)) else (bU.l0 k x0 x1 x2 ([]:List (mG)) x2 0)
def bU.l0:Nat→Int→Int→Int→List (mG)→Int→Int→Option ((List (mG)) × Int)
 | 0,_,_,_,_,_,_=>none
 | k+1,x0,x1,x2,x8,x30,x31=>if x31 < x30 then ((bQ.f k x0 x1 x2 x31).bind fun aq2=>((aG.f k aq2.2).bind fun amQ=>(if amQ.2=0 then (if x8.length < 4398046511104 then (bU.l0 k x0 x1 x2 (x8 ++ [(⟨aq2.1,amQ.1⟩:mG)]) x30 (wrap64 (x31+1))) else (none)) else (some (([]:List (mG)),amQ.2))))) else (some (x8,0))
end
def bU.f (k:Nat) (a0 a1 a2:Int):Option ((List (mG)) × Int):=if a0 < 0 then (bU.j0 k a0 a1 a2 true) else (if a0 > 2 then (bU.j0 k a0 a1 a2 true) else ((iH.f a1).bind fun apA=>(if apA=true then ((iH.f a2).bind fun amR=>(bU.j0 k a0 a1 a2 (!amR))) else (bU.j0 k a0 a1 a2 true))))
set_option maxHeartbeats 8000000 in
set_option maxRecDepth 100000 in
theorem bU.calls (k:Nat) (a0 a1 a2:Int) (r1:List (mG)) (r2:Int) (w:World) (h:bU.f k a0 a1 a2=some (r1,r2)) :
  Calls Tryz.prog 93 #[.int .i64 a0,.int .i64 a1,.int .i64 a2] w fun e w'=>∃ v0_:Value,e = .returned (.tuple #[v0_,.int .i64 r2])∧Kd.S aaP 138 w' w.heap.size (fun _=>True) v0_ r1∧Below w.heap.size w w':=by
 have aAh:=Tryz.underlying138
 have HB:=aj.mk (Below.refl w.heap.size w)
 have H:=h
 clear h
 unfold bU.f at H
 have HC4:=aj.mk H
 clear H
 go_enter Tryz.func93,Tryz.ntmps93
 go_upto_region 1 with (fail)
 go_cut [29] (fun v29 wc=>∃ (kq:Nat) (ai8:Bool),v29 = .bool ai8∧aj (bU.j0 kq a0 a1 a2 ai8=some (r1,r2))∧aj (kq≤k)∧aj (Below w.heap.size w wc))
 case first =>
  have H:=HC4.out
  clear HC4
  by_cases c5:a0 < 0
  ·rw [if_pos c5] at H
   have iM:=decide_eq_true c5
   clear c5
   (first|rw [iM]|(simp only [bW,dA];rw [iM])|skip)
   have H':=aj.mk H
   clear H
   go_wp2
   go_meet
   case rel=>exact ⟨_,(true),zT,H',⟨by first|omega|exact Nat.le_refl _⟩,⟨zB⟩⟩
  ·rw [if_neg c5] at H
   have iM:=decide_eq_false c5
   clear c5
   (first|rw [iM]|(simp only [bW,dA];rw [iM])|skip)
   by_cases c6:a0 > 2
   ·rw [if_pos c6] at H
    have iy:=decide_eq_true c6
    clear c6
    have H':=aj.mk H
    clear H
    go_wp2
    go_meet
    case rel=>exact ⟨_,(true),zT,H',⟨by first|omega|exact Nat.le_refl _⟩,⟨zB⟩⟩
   ·rw [if_neg c6] at H
    have iy:=decide_eq_false c6
    clear c6
    replace H:=zO H
    obtain ⟨apA,A7,H⟩:=H
    try dsimp only at H
    by_cases c8:apA=true
    ·subst c8
     rw [if_pos rfl] at H;try dsimp only at H
     replace H:=zO H
     obtain ⟨amR,A9,H⟩:=H
     try dsimp only at H
     have H':=aj.mk H
     clear H
     go_wp2_with (first|(go_at_call 113;(with_reducible refine (iH.calls a1 true _ A7.out).mono ?_);rintro e w' ⟨rfl,⟨nd,rfl⟩⟩)|(go_at_call 113;(with_reducible refine (iH.calls a2 amR _ A9.out).mono ?_);rintro e w' ⟨rfl,⟨nd,rfl⟩⟩))
     go_meet
     case rel=>exact ⟨_,(!amR),zT,H',⟨by first|omega|exact Nat.le_refl _⟩,⟨zB⟩⟩
    ·replace c8:=Bool.eq_false_iff.mpr c8
     subst c8
     rw [if_neg (show ¬ (false=true) by decide)] at H;try dsimp only at H
     have H':=aj.mk H
     clear H
     go_wp2_with (first|(go_at_call 113;(with_reducible refine (iH.calls a1 false _ A7.out).mono ?_);rintro e w' ⟨rfl,⟨nd,rfl⟩⟩))
     go_meet
     case rel=>exact ⟨_,(true),zT,H',⟨by first|omega|exact Nat.le_refl _⟩,⟨zB⟩⟩
 case rest =>
  clear HC4
  obtain ⟨kq,ai8,rfl,HA,HJ3,HB⟩:=hcut
  cases kq with
  | zero=>exact absurd HA.out (by simp [bU.j0])
  | succ kj3 =>
   have H:=HA.out
   clear HA
   simp only [bU.j0] at H
   by_cases c10:ai8=true
   ·subst c10
    rw [if_pos rfl] at H;try dsimp only at H
    simp only [Option.some.injEq,Prod.mk.injEq] at H
    obtain ⟨rfl,rfl⟩:=H
    go_wp2
    go_ret2
    exact ⟨_,zS,by first|exact Kd.oK _ _ _ _ _|exact Kd.oQ _ _ _ _ _|exact Kd.nN _ _ _ _ _|exact Kd.oU _ _ _ _ _|exact Kd.kF _ _ _ _ _,zB⟩
   ·replace c10:=Bool.eq_false_iff.mpr c10
    subst c10
    rw [if_neg (show ¬ (false=true) by decide)] at H;try dsimp only at H
    have H':=aj.mk H
    clear H
    go_wp2
    go_loopg [8,31] kj3 (fun kq v8 v31 w'=>∃ (kW:List (mG)) (aal:Int),v31 = .int .i64 aal∧aj (bU.l0 kq a0 a1 a2 kW a2 aal=some (r1,r2))∧aj (kq≤kj3)∧aj (Kd.S aaP 138 w' w.heap.size (fun _=>True) v8 kW)∧aj (Below w.heap.size w w'))
    case atStart=>exact ⟨(([]:List (mG))),(0),zT,H',⟨Nat.le_refl _⟩,⟨by first|exact Kd.oK _ _ _ _ _|exact Kd.oQ _ _ _ _ _|exact Kd.nN _ _ _ _ _|exact Kd.oU _ _ _ _ _|exact Kd.kF _ _ _ _ _⟩,⟨zB⟩⟩
    case round =>
     clear H'
     obtain ⟨kW,aal,rfl,HA,HK2,dP,HB⟩:=hrel
     cases gk with
     | zero=>exact absurd HA.out (by simp [bU.l0])
     | succ k2 =>
      have H:=HA.out
      clear HA
      simp only [bU.l0] at H
      by_cases c11:aal < a2
      ·rw [if_pos c11] at H
       have iP:=decide_eq_true c11
       clear c11
       replace H:=zO H
       obtain ⟨⟨ahB,ada⟩,A12,H⟩:=H
       try dsimp only at H
       replace H:=zO H
       obtain ⟨⟨afP,afQ⟩,A13,H⟩:=H
       try dsimp only at H
       by_cases c14:afQ=0
       ·rw [if_pos c14] at H
        have abW:(afQ == 0)=true:=beq_iff_eq.mpr c14
        have amS:(afQ != 0)=false:=bne_eq_false_iff_eq.mpr c14
        clear c14
        by_cases c15:kW.length < 4398046511104
        ·rw [if_pos c15] at H
         have amB:=aj.mk c15
         clear c15
         obtain ⟨asY,agM⟩:∃ y_:List (mG),y_=(kW ++ [(⟨ahB,afP⟩:mG)]):=⟨_,rfl⟩
         replace H:(bU.l0 k2 a0 a1 a2 asY a2 (wrap64 (aal+1)))=some (r1,r2):=by first|(rw [agM];with_reducible exact H)|(have H2_:=(Option.bind_some _ _).symm.trans H;rw [agM];with_reducible exact H2_)|(have H2_:=(Option.bind_some _ _).symm.trans H;with_reducible exact H2_)|with_reducible exact H|(rw [agM];exact H)|exact H
         have auR:=aj.mk agM
         clear agM
         have H':=aj.mk H
         clear H
         go_wp2_with (first|((with_reducible refine aA (f:=114) rfl ?_);refine aH (some 39) rfl rfl Tryz.func114 (by kernel_rfl) rfl #[.int .i64 a0,.int .i64 a1,.int .i64 a2,.int .i64 aal] rfl zL ?_;(with_reducible refine (bQ.calls k2 a0 a1 a2 aal ahB ada _ A12.out).mono ?_);rintro e w16 ⟨avZ,rfl,ho0,hb⟩;refine ⟨_,rfl,?_⟩;obtain ⟨dP,sO,HB⟩:=zA3 (Kd.acL (by (with_reducible repeat (first|apply Kd.zV|apply Kd.zX|apply Kd.aby));exact dP.out) (Kd.jd ho0) hb) (Kd.fZ ho0 (bF zB)) (ak zB hb);(try clear hb);(try clear ho0);obtain ⟨amT,amU,av1⟩:=Kd.gB sO.out;subst av1)|((with_reducible refine aA (f:=115) rfl ?_);refine aH (some 44) rfl rfl Tryz.func115 (by kernel_rfl) rfl #[.slice amT ada.length amU] rfl zL ?_;(with_reducible refine (aG.calls k2 _ _ ada afP afQ _ ?iJ ?iK A13.out).mono ?_);(case iJ=>repeat (first|exact (Kd.dM sO.out).2.2|(with_reducible refine Kd.jg ?_ _)|(with_reducible refine Kd.jE ?_ _)|(with_reducible refine Kd.kJ ?_)));(case iK=>exact (Kd.dM sO.out).2.1);rintro e w18 ⟨av2,rfl,ho0,hb⟩;refine ⟨_,rfl,?_⟩;obtain ⟨dP,sO,ai9,HB⟩:=zA4 (Kd.acL (by (with_reducible repeat (first|apply Kd.zV|apply Kd.zX|apply Kd.aby));exact dP.out) (Kd.jd ho0) hb) (Kd.iF (by (with_reducible repeat (first|apply Kd.aK|apply Kd.aQ|apply Kd.aW));exact sO.out) (Kd.jd ho0) hb) (Kd.fZ (Kd.jR ho0 (Kd.lg (by (with_reducible repeat (first|apply Kd.aK|apply Kd.aQ|apply Kd.aW));exact sO.out))) (bF zB)) (ak zB hb);(try clear hb);(try clear ho0);obtain ⟨aj9,akb,akc⟩:=Kd.gB ai9.out;subst akc)|((with_reducible refine jG (b := .append) (xs := #[.tmp 50,.tmp 54]) rfl ?_);at_builtin;refine Kd.aon aaP (w0:=w) w.heap.size rfl (.tmp 50) (.tmp 54) 39 138 (.agg #[(.int .i64 0),(.slice none 0 0)]) 32 rfl Tryz.underlying39 arw rfl (by decide) (by omega) u8 kW (⟨ahB,afP⟩:mG) [.int .i64 ahB,.slice aj9 afP.length akb] (fun k_=>some k_≠(.slice amT ada.length amU:Value).ownBlock) (fun k_=>some k_=(.slice aj9 afP.length akb:Value).ownBlock) rfl rfl ?aP (fun k_ hk_=>((Kd.eF (ok':=fun k_=>((fun k_=>some k_≠(.slice amT ada.length amU:Value).ownBlock)) k_∧some k_≠(u8:Value).ownBlock) (Kd.ajm (ai9.out) (Kd.ahl dP.out) (by decide)) (fun k_ hk=>⟨hk.1.2,hk.2⟩))).1 k_ hk_.symm) ?aF ?aO ?aB ?aS ?aL ?_;(case aP=>exact ajt _ _ _ (⟨ahB,afP⟩:mG) (Kd.eF (Kd.arq rfl (Kd.eF (ok':=fun k_=>((fun k_=>some k_≠(.slice amT ada.length amU:Value).ownBlock)) k_∧some k_≠(u8:Value).ownBlock) (Kd.ajm (ai9.out) (Kd.ahl dP.out) (by decide)) (fun k_ hk=>⟨hk.1.2,hk.2⟩))) (fun _ h_=>h_)));(case aB=>exact zB);(case aF=>exact (fun k_ hk=>Kd.fresh' (Kd.lg (by (with_reducible repeat (first|apply Kd.aK|apply Kd.aQ|apply Kd.aW));exact sO.out)) k_ hk));(case aO=>exact (by (with_reducible repeat (first|apply Kd.zV|apply Kd.zX|apply Kd.aby));exact Kd.anD dP.out (fun k_ hk=>⟨hk.1.2,fun e_=>hk.2 e_⟩)));(case aS=>exact (bF zB));(case aL=>have:=amB.out;omega);intro aBd w20 ho hb hg hat;rw [← auR.out] at ho;obtain ⟨sO,HB,auS⟩:=zA3 (Kd.arp (by (with_reducible repeat (first|apply Kd.aK|apply Kd.aQ|apply Kd.aW));exact sO.out) (Kd.ahl (by (with_reducible repeat (first|apply Kd.zV|apply Kd.zX|apply Kd.aby));exact dP.out)) (by decide) hg) hb ho;clear ho hb hg hat))
         go_roundg k2
         case measure=>have:=HJ3.out;have:=HK2.out;omega
         case rel=>exact ⟨(asY),(wrap64 (aal+1)),zT,H',⟨by have:=HJ3.out;have:=HK2.out;omega⟩,⟨by (with_reducible repeat (first|apply Kd.zV|apply Kd.zX|apply Kd.aby));exact Kd.anD auS.out (fun _ hk=>trivial)⟩,⟨zB⟩⟩
        ·rw [if_neg c15] at H
         exact absurd H (by simp)
       ·rw [if_neg c14] at H
        have abW:(afQ == 0)=false:=beq_eq_false_iff_ne.mpr c14
        have amS:(afQ != 0)=true:=bne_iff_ne.mpr c14
        simp only [Option.some.injEq,Prod.mk.injEq] at H
        obtain ⟨rfl,rfl⟩:=H
        go_wp2_with (first|((with_reducible refine aA (f:=114) rfl ?_);refine aH (some 39) rfl rfl Tryz.func114 (by kernel_rfl) rfl #[.int .i64 a0,.int .i64 a1,.int .i64 a2,.int .i64 aal] rfl zL ?_;(with_reducible refine (bQ.calls k2 a0 a1 a2 aal ahB ada _ A12.out).mono ?_);rintro e w21 ⟨avZ,rfl,ho0,hb⟩;refine ⟨_,rfl,?_⟩;obtain ⟨dP,sO,HB⟩:=zA3 (Kd.acL (by (with_reducible repeat (first|apply Kd.zV|apply Kd.zX|apply Kd.aby));exact dP.out) (Kd.jd ho0) hb) (Kd.fZ ho0 (bF zB)) (ak zB hb);(try clear hb);(try clear ho0);obtain ⟨afK,wU,aps⟩:=Kd.gB sO.out;subst aps)|((with_reducible refine aA (f:=115) rfl ?_);refine aH (some 44) rfl rfl Tryz.func115 (by kernel_rfl) rfl #[.slice afK ada.length wU] rfl zL ?_;(with_reducible refine (aG.calls k2 _ _ ada afP afQ _ ?iJ ?iK A13.out).mono ?_);(case iJ=>repeat (first|exact (Kd.dM sO.out).2.2|(with_reducible refine Kd.jg ?_ _)|(with_reducible refine Kd.jE ?_ _)|(with_reducible refine Kd.kJ ?_)));(case iK=>exact (Kd.dM sO.out).2.1);rintro e w23 ⟨av2,rfl,ho0,hb⟩;refine ⟨_,rfl,?_⟩;obtain ⟨dP,sO,ai9,HB⟩:=zA4 (Kd.acL (by (with_reducible repeat (first|apply Kd.zV|apply Kd.zX|apply Kd.aby));exact dP.out) (Kd.jd ho0) hb) (Kd.iF (by (with_reducible repeat (first|apply Kd.aK|apply Kd.aQ|apply Kd.aW));exact sO.out) (Kd.jd ho0) hb) (Kd.fZ (Kd.jR ho0 (Kd.lg (by (with_reducible repeat (first|apply Kd.aK|apply Kd.aQ|apply Kd.aW));exact sO.out))) (bF zB)) (ak zB hb);(try clear hb);(try clear ho0)))
        go_ret2
        exact ⟨_,zS,by first|exact Kd.oK _ _ _ _ _|exact Kd.oQ _ _ _ _ _|exact Kd.nN _ _ _ _ _|exact Kd.oU _ _ _ _ _|exact Kd.kF _ _ _ _ _,zB⟩
      ·rw [if_neg c11] at H
       have iP:=decide_eq_false c11
       clear c11
       simp only [Option.some.injEq,Prod.mk.injEq] at H
       obtain ⟨rfl,rfl⟩:=H
       go_wp2
       go_ret2
       exact ⟨_,zS,by (with_reducible repeat (first|apply Kd.zV|apply Kd.zX|apply Kd.aby));exact dP.out,zB⟩
end Go.Proofs.YtpondkggmcmpfaaGreatDoor.QA
namespace Go.Proofs.YtpondkggmcmpfaaGreatDoor.QA
open Go.Proofs.YtpondkggmcmpfaaGreatDoor.T
open Go.RowKit Go.Proofs.YtpondkggmcmpfaaGreatDoorW.PrintWords Go.Proofs.YtpondkggmcmpfaaGreatDoorW.PrintLast Go.Proofs.YtpondkggmcmpfaaGreatDoorW.PrintMore
attribute [local go_sem] dY dS dU fA fB
set_option linter.unusedVariables false
set_option linter.unusedSimpArgs false
mutual
def dR.j0:Nat→Int→Option (Int)
 | 0,_=>none
 | k+1,x0=>(dV.f k x0 762123384786).bind fun aaX=>(dR.l0 k aaX (wrap64 (x0 - (wrap64 (aaX*762123384786)))) 1099511627776 0 1099511627776 1)
def dR.l0:Nat→Int→Int→Int→Int→Int→Int→Option (Int)
 | 0,_,_,_,_,_,_=>none
 | k+1,x3,x4,x5,x6,x7,x8=>if x8≤16 then ((aX.f k x7 x4 (wrap64 (x8*1099511627776))).bind fun abz=>(if (Int.tmod x8 2)=1 then (dR.l0 k x3 x4 x5 (wrap64 (x6+abz)) abz (wrap64 (x8+1))) else (dR.l0 k x3 x4 (wrap64 (x5+abz)) x6 abz (wrap64 (x8+1))))) else ((aJ.f k (wrap64 (x5 - x6)) x3).bind fun apB=>(some apB))
end
def dR.f (k:Nat) (a0:Int):Option (Int):=if a0 < 0 then (dR.j0 k 0) else (dR.j0 k a0)
set_option maxHeartbeats 8000000 in
set_option maxRecDepth 100000 in
theorem dR.calls (k:Nat) (a0 r:Int) (w:World) (h:dR.f k a0=some r) :
  Calls Tryz.prog 145 #[.int .i64 a0] w fun e w'=>e = .returned (.int .i64 r)∧Below w.heap.size w w':=by
 have HB:=aj.mk (Below.refl w.heap.size w)
 have H:=h
 clear h
 unfold dR.f at H
 have HC2:=aj.mk H
 clear H
 go_enter Tryz.func145,Tryz.ntmps145
 go_upto_if 10 with (fail)
 go_cut [0] (fun v0 wc=>∃ (kq:Nat) (acn:Int),v0 = .int .i64 acn∧aj (dR.j0 kq acn=some r)∧aj (kq≤k)∧aj (Below w.heap.size w wc))
 case first =>
  have H:=HC2.out
  clear HC2
  by_cases c3:a0 < 0
  ·rw [if_pos c3] at H
   have fQ:=decide_eq_true c3
   clear c3
   (first|rw [fQ]|(simp only [bW,dA];rw [fQ])|skip)
   have H':=aj.mk H
   clear H
   go_wp2
   go_meet
   case rel=>exact ⟨_,(0),zT,H',⟨by first|omega|exact Nat.le_refl _⟩,⟨zB⟩⟩
  ·rw [if_neg c3] at H
   have fQ:=decide_eq_false c3
   clear c3
   (first|rw [fQ]|(simp only [bW,dA];rw [fQ])|skip)
   have H':=aj.mk H
   clear H
   go_wp2
   go_meet
   case rel=>exact ⟨_,(a0),zT,H',⟨by first|omega|exact Nat.le_refl _⟩,⟨zB⟩⟩
 case rest =>
  clear HC2
  obtain ⟨kq,acn,rfl,HA,HJ1,HB⟩:=hcut
  cases kq with
  | zero=>exact absurd HA.out (by simp [dR.j0])
  | succ kj1 =>
   have H:=HA.out
   clear HA
   simp only [dR.j0] at H
   replace H:=zO H
   obtain ⟨aaX,A4,H⟩:=H
   try dsimp only at H
   have H':=aj.mk H
   clear H
   go_wp2_with (first|((with_reducible refine aA (f:=144) rfl ?_);refine aH (some 12) rfl rfl Tryz.func144 (by kernel_rfl) rfl #[.int .i64 acn,.int .i64 762123384786] rfl zL ?_;(with_reducible refine (dV.calls kj1 acn 762123384786 aaX _ A4.out).mono ?_);rintro e w5 ⟨rfl,hb⟩;refine ⟨_,rfl,?_⟩;replace HB:=aj.mk (ak zB hb);(try clear hb)))
   go_loopg [5,6,7,8] kj1 (fun kq v5 v6 v7 v8 w'=>∃ (lX:Int) (wW:Int) (zQ:Int) (kW:Int),v5 = .int .i64 lX∧v6 = .int .i64 wW∧v7 = .int .i64 zQ∧v8 = .int .i64 kW∧aj (dR.l0 kq aaX (wrap64 (acn - (wrap64 (aaX*762123384786)))) lX wW zQ kW=some r)∧aj (kq≤kj1)∧aj (Below w.heap.size w w'))
   case atStart=>exact ⟨(1099511627776),(0),(1099511627776),(1),zT,zT,zT,zT,H',⟨Nat.le_refl _⟩,⟨zB⟩⟩
   case round =>
    clear H'
    obtain ⟨lX,wW,zQ,kW,rfl,rfl,rfl,rfl,HA,HK2,HB⟩:=hrel
    cases gk with
    | zero=>exact absurd HA.out (by simp [dR.l0])
    | succ k2 =>
     have H:=HA.out
     clear HA
     simp only [dR.l0] at H
     by_cases c6:kW≤16
     ·rw [if_pos c6] at H
      have iy:=decide_eq_true c6
      clear c6
      replace H:=zO H
      obtain ⟨abz,A7,H⟩:=H
      try dsimp only at H
      by_cases c8:(Int.tmod kW 2)=1
      ·rw [if_pos c8] at H
       have vX:((Int.tmod kW 2) == 1)=true:=beq_iff_eq.mpr c8
       have acP:((Int.tmod kW 2) != 1)=false:=bne_eq_false_iff_eq.mpr c8
       clear c8
       have H':=aj.mk H
       clear H
       go_wp2_with (first|((with_reducible refine aA (f:=118) rfl ?_);refine aH (some 25) rfl rfl Tryz.func118 (by kernel_rfl) rfl #[.int .i64 zQ,.int .i64 (wrap64 (acn - (wrap64 (aaX*762123384786)))),.int .i64 (wrap64 (kW*1099511627776))] rfl zL ?_;(with_reducible refine (aX.calls k2 zQ (wrap64 (acn - (wrap64 (aaX*762123384786)))) (wrap64 (kW*1099511627776)) abz _ A7.out).mono ?_);rintro e w9 ⟨rfl,hb⟩;refine ⟨_,rfl,?_⟩;replace HB:=aj.mk (ak zB hb);(try clear hb)))
       go_roundg k2
       case measure=>have:=HJ1.out;have:=HK2.out;omega
       case rel=>exact ⟨(lX),(wrap64 (wW+abz)),(abz),(wrap64 (kW+1)),zT,zT,zT,zT,H',⟨by have:=HJ1.out;have:=HK2.out;omega⟩,⟨zB⟩⟩
      ·rw [if_neg c8] at H
       have vX:((Int.tmod kW 2) == 1)=false:=beq_eq_false_iff_ne.mpr c8
       have acP:((Int.tmod kW 2) != 1)=true:=bne_iff_ne.mpr c8
       have H':=aj.mk H
       clear H
       go_wp2_with (first|((with_reducible refine aA (f:=118) rfl ?_);refine aH (some 25) rfl rfl Tryz.func118 (by kernel_rfl) rfl #[.int .i64 zQ,.int .i64 (wrap64 (acn - (wrap64 (aaX*762123384786)))),.int .i64 (wrap64 (kW*1099511627776))] rfl zL ?_;(with_reducible refine (aX.calls k2 zQ (wrap64 (acn - (wrap64 (aaX*762123384786)))) (wrap64 (kW*1099511627776)) abz _ A7.out).mono ?_);rintro e w10 ⟨rfl,hb⟩;refine ⟨_,rfl,?_⟩;replace HB:=aj.mk (ak zB hb);(try clear hb)))
       go_roundg k2
       case measure=>have:=HJ1.out;have:=HK2.out;omega
       case rel=>exact ⟨(wrap64 (lX+abz)),(wW),(abz),(wrap64 (kW+1)),zT,zT,zT,zT,H',⟨by have:=HJ1.out;have:=HK2.out;omega⟩,⟨zB⟩⟩
     ·rw [if_neg c6] at H
      have iy:=decide_eq_false c6
      clear c6
      replace H:=zO H
      obtain ⟨apB,A11,H⟩:=H
      try dsimp only at H
      obtain rfl:=Option.some.inj H
      go_wp2_with (first|((with_reducible refine aA (f:=101) rfl ?_);refine aH (some 39) rfl rfl Tryz.func101 (by kernel_rfl) rfl #[.int .i64 (wrap64 (lX - wW)),.int .i64 aaX] rfl zL ?_;(with_reducible refine (aJ.calls k2 (wrap64 (lX - wW)) aaX apB _ A11.out).mono ?_);rintro e w12 ⟨rfl,hb⟩;refine ⟨_,rfl,?_⟩;replace HB:=aj.mk (ak zB hb);(try clear hb)))
      go_ret
      exact ⟨zS,zB⟩
def lZ.f (k:Nat) (a0 a1:Int):Option (Int):=if a1 < 1 then (some 9223372036854775807) else (if a1 > 4194304 then (some 9223372036854775807) else (if a0 < (-16384) then (some 9223372036854775807) else (if a0 > 16384 then (some 9223372036854775807) else ((aX.f k (wrap64 ((wrap64 (a0*a0))*2147483648)) 1099511627776 (wrap64 (a1*a1))).bind fun apC=>(some apC)))))
set_option maxHeartbeats 8000000 in
set_option maxRecDepth 100000 in
theorem lZ.calls (k:Nat) (a0 a1 r:Int) (w:World) (h:lZ.f k a0 a1=some r) :
  Calls Tryz.prog 146 #[.int .i64 a0,.int .i64 a1] w fun e w'=>e = .returned (.int .i64 r)∧Below w.heap.size w w':=by
 have HB:=aj.mk (Below.refl w.heap.size w)
 have H:=h
 clear h
 unfold lZ.f at H
 by_cases c3:a1 < 1
 ·rw [if_pos c3] at H
  have fQ:=decide_eq_true c3
  clear c3
  obtain rfl:=Option.some.inj H
  go_enter Tryz.func146,Tryz.ntmps146
  go_wp2
  go_ret
  exact ⟨zS,zB⟩
 ·rw [if_neg c3] at H
  have fQ:=decide_eq_false c3
  clear c3
  by_cases c4:a1 > 4194304
  ·rw [if_pos c4] at H
   have fV:=decide_eq_true c4
   clear c4
   obtain rfl:=Option.some.inj H
   go_enter Tryz.func146,Tryz.ntmps146
   go_wp2
   go_ret
   exact ⟨zS,zB⟩
  ·rw [if_neg c4] at H
   have fV:=decide_eq_false c4
   clear c4
   by_cases c5:a0 < (-16384)
   ·rw [if_pos c5] at H
    have iM:=decide_eq_true c5
    clear c5
    obtain rfl:=Option.some.inj H
    go_enter Tryz.func146,Tryz.ntmps146
    go_wp2
    go_ret
    exact ⟨zS,zB⟩
   ·rw [if_neg c5] at H
    have iM:=decide_eq_false c5
    clear c5
    by_cases c6:a0 > 16384
    ·rw [if_pos c6] at H
     have iy:=decide_eq_true c6
     clear c6
     obtain rfl:=Option.some.inj H
     go_enter Tryz.func146,Tryz.ntmps146
     go_wp2
     go_ret
     exact ⟨zS,zB⟩
    ·rw [if_neg c6] at H
     have iy:=decide_eq_false c6
     clear c6
     replace H:=zO H
     obtain ⟨apC,A7,H⟩:=H
     try dsimp only at H
     obtain rfl:=Option.some.inj H
     go_enter Tryz.func146,Tryz.ntmps146
     go_wp2_with (first|((with_reducible refine aA (f:=118) rfl ?_);refine aH (some 26) rfl rfl Tryz.func118 (by kernel_rfl) rfl #[.int .i64 (wrap64 ((wrap64 (a0*a0))*2147483648)),.int .i64 1099511627776,.int .i64 (wrap64 (a1*a1))] rfl zL ?_;(with_reducible refine (aX.calls k (wrap64 ((wrap64 (a0*a0))*2147483648)) 1099511627776 (wrap64 (a1*a1)) apC _ A7.out).mono ?_);rintro e w8 ⟨rfl,hb⟩;refine ⟨_,rfl,?_⟩;replace HB:=aj.mk (ak zB hb);(try clear hb)))
     go_ret
     exact ⟨zS,zB⟩
def l7.f (k:Nat) (a0 a1:Int):Option (Int):=(lZ.f k a0 a1).bind fun akd=>((dR.f k akd).bind fun ake=>((aJ.f k ake 10).bind fun apD=>(some apD)))
set_option maxHeartbeats 8000000 in
set_option maxRecDepth 100000 in
theorem l7.calls (k:Nat) (a0 a1 r:Int) (w:World) (h:l7.f k a0 a1=some r) :
  Calls Tryz.prog 116 #[.int .i64 a0,.int .i64 a1] w fun e w'=>e = .returned (.int .i64 r)∧Below w.heap.size w w':=by
 have HB:=aj.mk (Below.refl w.heap.size w)
 have H:=h
 clear h
 unfold l7.f at H
 replace H:=zO H
 obtain ⟨akd,A3,H⟩:=H
 try dsimp only at H
 replace H:=zO H
 obtain ⟨ake,A4,H⟩:=H
 try dsimp only at H
 replace H:=zO H
 obtain ⟨apD,A5,H⟩:=H
 try dsimp only at H
 obtain rfl:=Option.some.inj H
 go_enter Tryz.func116,Tryz.ntmps116
 go_wp2_with (first|((with_reducible refine aA (f:=146) rfl ?_);refine aH (some 7) rfl rfl Tryz.func146 (by kernel_rfl) rfl #[.int .i64 a0,.int .i64 a1] rfl zL ?_;(with_reducible refine (lZ.calls k a0 a1 akd _ A3.out).mono ?_);rintro e w6 ⟨rfl,hb⟩;refine ⟨_,rfl,?_⟩;replace HB:=aj.mk (ak zB hb);(try clear hb))|((with_reducible refine aA (f:=145) rfl ?_);refine aH (some 8) rfl rfl Tryz.func145 (by kernel_rfl) rfl #[.int .i64 akd] rfl zL ?_;(with_reducible refine (dR.calls k akd ake _ A4.out).mono ?_);rintro e w7 ⟨rfl,hb⟩;refine ⟨_,rfl,?_⟩;replace HB:=aj.mk (ak zB hb);(try clear hb))|((with_reducible refine aA (f:=101) rfl ?_);refine aH (some 9) rfl rfl Tryz.func101 (by kernel_rfl) rfl #[.int .i64 ake,.int .i64 10] rfl zL ?_;(with_reducible refine (aJ.calls k ake 10 apD _ A5.out).mono ?_);rintro e w8 ⟨rfl,hb⟩;refine ⟨_,rfl,?_⟩;replace HB:=aj.mk (ak zB hb);(try clear hb)))
 go_ret
 exact ⟨zS,zB⟩
end Go.Proofs.YtpondkggmcmpfaaGreatDoor.QA
namespace Go.Proofs.YtpondkggmcmpfaaGreatDoor.QA
open Go.Proofs.YtpondkggmcmpfaaGreatDoor.T
open Go.RowKit Go.Proofs.YtpondkggmcmpfaaGreatDoorW.PrintWords Go.Proofs.YtpondkggmcmpfaaGreatDoorW.PrintLast Go.Proofs.YtpondkggmcmpfaaGreatDoorW.PrintMore
attribute [local go_sem] dY dS dU fA fB
set_option linter.unusedVariables false
set_option linter.unusedSimpArgs false
mutual
def bf.j0:Nat→Int→Bool→Option (List Int × Int)
 | 0,_,_=>none
 | k+1,x0,x12=>if x12=true then (some (([]:List Int),7)) else (bf.l0 k x0 0)
def bf.l0:Nat→Int→Int→Option (List Int × Int)
 | 0,_,_=>none
 | k+1,x0,x4=>if (wrap64 (x4*65536)) < (wrap64 (3*x0)) then (bf.l0 k x0 (wrap64 (x4+1))) else (bf.l1 k x0 x4 ([]:List Int) (wrap64 (-x4)))
def bf.l1:Nat→Int→Int→List Int→Int→Option (List Int × Int)
 | 0,_,_,_,_=>none
 | k+1,x0,x4,x5,x6=>if x6≤x4 then ((l7.f k x6 x0).bind fun ahC=>(if x5.length < 17592186044416 then (bf.l1 k x0 x4 (x5 ++ [ahC]) (wrap64 (x6+1))) else (none))) else (some (x5,0))
end
def bf.f (k:Nat) (a0:Int):Option (List Int × Int):=if a0 < 1 then (bf.j0 k a0 true) else (bf.j0 k a0 (decide (a0 > 4194304)))
set_option maxHeartbeats 8000000 in
set_option maxRecDepth 100000 in
theorem bf.calls (k:Nat) (a0:Int) (r1:List Int) (r2:Int) (w:World) (h:bf.f k a0=some (r1,r2)) :
  Calls Tryz.prog 94 #[.int .i64 a0] w fun e w'=>∃ v0_:Value,e = .returned (.tuple #[v0_,.int .i64 r2])∧Kd.R (Kd.int .i64) 2 w' w.heap.size (fun _=>True) v0_ r1∧Below w.heap.size w w':=by
 have HB:=aj.mk (Below.refl w.heap.size w)
 have H:=h
 clear h
 unfold bf.f at H
 have HC2:=aj.mk H
 clear H
 go_enter Tryz.func94,Tryz.ntmps94
 go_upto_region 1 with (fail)
 go_cut [12] (fun v12 wc=>∃ (kq:Nat) (aa6:Bool),v12 = .bool aa6∧aj (bf.j0 kq a0 aa6=some (r1,r2))∧aj (kq≤k)∧aj (Below w.heap.size w wc))
 case first =>
  have H:=HC2.out
  clear HC2
  by_cases c3:a0 < 1
  ·rw [if_pos c3] at H
   have fQ:=decide_eq_true c3
   clear c3
   (first|rw [fQ]|(simp only [bW,dA];rw [fQ])|skip)
   have H':=aj.mk H
   clear H
   go_wp2
   go_meet
   case rel=>exact ⟨_,(true),zT,H',⟨by first|omega|exact Nat.le_refl _⟩,⟨zB⟩⟩
  ·rw [if_neg c3] at H
   have fQ:=decide_eq_false c3
   clear c3
   (first|rw [fQ]|(simp only [bW,dA];rw [fQ])|skip)
   have H':=aj.mk H
   clear H
   go_wp2
   go_meet
   case rel=>exact ⟨_,(decide (a0 > 4194304)),zT,H',⟨by first|omega|exact Nat.le_refl _⟩,⟨zB⟩⟩
 case rest =>
  clear HC2
  obtain ⟨kq,aa6,rfl,HA,HJ1,HB⟩:=hcut
  cases kq with
  | zero=>exact absurd HA.out (by simp [bf.j0])
  | succ kj1 =>
   have H:=HA.out
   clear HA
   simp only [bf.j0] at H
   by_cases c4:aa6=true
   ·subst c4
    rw [if_pos rfl] at H;try dsimp only at H
    simp only [Option.some.injEq,Prod.mk.injEq] at H
    obtain ⟨rfl,rfl⟩:=H
    go_wp2
    go_ret2
    exact ⟨_,zS,by first|exact Kd.kF _ _ _ _ _|exact Kd.oQ _ _ _ _ _|exact Kd.nN _ _ _ _ _|exact Kd.oU _ _ _ _ _|exact Kd.oK _ _ _ _ _,zB⟩
   ·replace c4:=Bool.eq_false_iff.mpr c4
    subst c4
    rw [if_neg (show ¬ (false=true) by decide)] at H;try dsimp only at H
    have H':=aj.mk H
    clear H
    go_wp2
    go_loopg [4] kj1 (fun kq v4 w'=>∃ (vI:Int),v4 = .int .i64 vI∧aj (bf.l0 kq a0 vI=some (r1,r2))∧aj (kq≤kj1)∧aj (Below w.heap.size w w'))
    case atStart=>exact ⟨(0),zT,H',⟨Nat.le_refl _⟩,⟨zB⟩⟩
    case round =>
     clear H'
     obtain ⟨vI,rfl,HA,HK2,HB⟩:=hrel
     cases gk with
     | zero=>exact absurd HA.out (by simp [bf.l0])
     | succ k2 =>
      have H:=HA.out
      clear HA
      simp only [bf.l0] at H
      by_cases c5:(wrap64 (vI*65536)) < (wrap64 (3*a0))
      ·rw [if_pos c5] at H
       have iM:=decide_eq_true c5
       clear c5
       have H':=aj.mk H
       clear H
       go_wp2
       go_roundg k2
       case measure=>have:=HJ1.out;have:=HK2.out;omega
       case rel=>exact ⟨(wrap64 (vI+1)),zT,H',⟨by have:=HJ1.out;have:=HK2.out;omega⟩,⟨zB⟩⟩
      ·rw [if_neg c5] at H
       have iM:=decide_eq_false c5
       clear c5
       have H':=aj.mk H
       clear H
       go_wp2
       try simp only [Act.put,List.setIfInBounds_toArray,List.set_cons_succ,List.set_cons_zero]
       go_loopg [5,6] k2 (fun kq v5 v6 w'=>∃ (ahD:List Int) (aeo:Int),v6 = .int .i64 aeo∧aj (bf.l1 kq a0 vI ahD aeo=some (r1,r2))∧aj (kq≤k2)∧aj (Kd.R (Kd.int .i64) 2 w' w.heap.size (fun _=>True) v5 ahD)∧aj (Below w.heap.size w w'))
       case atStart=>exact ⟨(([]:List Int)),(wrap64 (-vI)),zT,H',⟨Nat.le_refl _⟩,⟨by first|exact Kd.kF _ _ _ _ _|exact Kd.oQ _ _ _ _ _|exact Kd.nN _ _ _ _ _|exact Kd.oU _ _ _ _ _|exact Kd.oK _ _ _ _ _⟩,⟨zB⟩⟩
       case round =>
        clear H'
        obtain ⟨ahD,aeo,rfl,HA,HK3,wK,HB⟩:=hrel
        cases gk with
        | zero=>exact absurd HA.out (by simp [bf.l1])
        | succ k3 =>
         have H:=HA.out
         clear HA
         simp only [bf.l1] at H
         by_cases c6:aeo≤vI
         ·rw [if_pos c6] at H
          have iy:=decide_eq_true c6
          clear c6
          replace H:=zO H
          obtain ⟨ahC,A7,H⟩:=H
          try dsimp only at H
          by_cases c8:ahD.length < 17592186044416
          ·rw [if_pos c8] at H
           have av3:=aj.mk c8
           clear c8
           obtain ⟨asZ,agN⟩:∃ y_:List Int,y_=(ahD ++ [ahC]):=⟨_,rfl⟩
           replace H:(bf.l1 k3 a0 vI asZ (wrap64 (aeo+1)))=some (r1,r2):=by first|(rw [agN];with_reducible exact H)|(have H2_:=(Option.bind_some _ _).symm.trans H;rw [agN];with_reducible exact H2_)|(have H2_:=(Option.bind_some _ _).symm.trans H;with_reducible exact H2_)|with_reducible exact H|(rw [agN];exact H)|exact H
           have auT:=aj.mk agN
           clear agN
           have H':=aj.mk H
           clear H
           go_wp2_with (first|((with_reducible refine aA (f:=116) rfl ?_);refine aH (some 30) rfl rfl Tryz.func116 (by kernel_rfl) rfl #[.int .i64 aeo,.int .i64 a0] rfl zL ?_;(with_reducible refine (l7.calls k3 aeo a0 ahC _ A7.out).mono ?_);rintro e w9 ⟨rfl,hb⟩;refine ⟨_,rfl,?_⟩;obtain ⟨wK,HB⟩:=zA2 (Kd.jQ (by (with_reducible repeat (first|apply Kd.aK|apply Kd.aQ|apply Kd.aW));exact wK.out) hb) (ak zB hb);(try clear hb))|((with_reducible refine jG (b := .append) (xs := #[.tmp 27,.tmp 31]) rfl ?_);at_builtin;refine Kd.kZ (Kd.int .i64) (w0:=w) w.heap.size rfl (.tmp 27) (.tmp 31) 44 2 (.int .i64 0) 8 rfl Tryz.underlying44 vM rfl (by decide) (by omega) u5 ahD ahC [.int .i64 ahC] (fun _=>True) (fun _=>False) rfl rfl ?aP (fun _ hk=>hk.elim) ?aF ?aO ?aB ?aS ?aL ?_;(case aP=>exact rfl);(case aB=>exact zB);(case aF=>exact (fun _ _=>trivial));(case aO=>exact (by (with_reducible repeat (first|apply Kd.aK|apply Kd.aQ|apply Kd.aW));exact wK.out));(case aS=>exact (bF zB));(case aL=>have:=av3.out;omega);intro aBe w10 ho hb hg hat;rw [← auT.out] at ho;obtain ⟨HB,auU⟩:=zA2 hb ho;clear ho hb hg hat))
           go_roundg k3
           case measure=>have:=HJ1.out;have:=HK2.out;have:=HK3.out;omega
           case rel=>exact ⟨(asZ),(wrap64 (aeo+1)),zT,H',⟨by have:=HJ1.out;have:=HK2.out;have:=HK3.out;omega⟩,⟨by (with_reducible repeat (first|apply Kd.aK|apply Kd.aQ|apply Kd.aW));exact auU.out⟩,⟨zB⟩⟩
          ·rw [if_neg c8] at H
           exact absurd H (by simp)
         ·rw [if_neg c6] at H
          have iy:=decide_eq_false c6
          clear c6
          simp only [Option.some.injEq,Prod.mk.injEq] at H
          obtain ⟨rfl,rfl⟩:=H
          go_wp2
          go_ret2
          exact ⟨_,zS,by (with_reducible repeat (first|apply Kd.aK|apply Kd.aQ|apply Kd.aW));exact wK.out,zB⟩
def iq.l0:Nat→Int→List Int→Int→Int→Option (Int)
 | 0,_,_,_,_=>none
 | k+1,x3,x6,x7,x8=>if x8 < x7 then (if 0≤x8 then (if x8 < (x6.length:Int) then ((iG.f (rd x6 x8)).bind fun akf=>((gK.f k x3 akf).bind fun amV=>(iq.l0 k amV x6 x7 (wrap64 (x8+1))))) else (none)) else (none)) else (some x3)
def iq.f (k:Nat) (l0:List Int):Option (Int):=iq.l0 k 0 l0 (l0.length:Int) 0
set_option maxHeartbeats 8000000 in
set_option maxRecDepth 100000 in
theorem iq.calls (k:Nat) (A0:Option Addr) (c0:Nat) (l0:List Int) (r:Int) (w:World) (hr0:Kd.C (Kd.int .i64) w A0 l0.length l0) (hc0:l0.length≤c0) (h:iq.f k l0=some r) :
  Calls Tryz.prog 117 #[.slice A0 l0.length c0] w fun e w'=>e = .returned (.int .i64 r)∧dw w w':=by
 have HR0:=aj.mk hr0
 have HC0:=aj.mk hc0
 clear hr0 hc0
 have H:=h
 clear h
 unfold iq.f at H
 have H':=aj.mk H
 clear H
 go_enter Tryz.func117,Tryz.ntmps117
 go_wp2
 go_loopg [3,8] k (fun kq v3 v8 w'=>∃ (qH:Int) (gZ:Int),v3 = .int .i64 qH∧v8 = .int .i64 gZ∧aj (iq.l0 kq qH l0 (l0.length:Int) gZ=some r)∧aj (kq≤k)∧dw w w')
 case atStart=>exact ⟨(0),(0),zT,zT,H',⟨Nat.le_refl _⟩,zW⟩
 case round =>
  clear H'
  obtain ⟨qH,gZ,rfl,rfl,HA,HK1,⟨m1,rfl⟩⟩:=hrel
  cases gk with
  | zero=>exact absurd HA.out (by simp [iq.l0])
  | succ k1 =>
   have H:=HA.out
   clear HA
   simp only [iq.l0] at H
   by_cases c2:gZ < (l0.length:Int)
   ·rw [if_pos c2] at H
    have lW:=decide_eq_true c2
    clear c2
    by_cases c3:0≤gZ
    ·rw [if_pos c3] at H
     have fQ:=decide_eq_true c3
     clear c3
     by_cases c4:gZ < (l0.length:Int)
     ·rw [if_pos c4] at H
      have fV:=decide_eq_true c4
      clear c4
      replace H:=zO H
      obtain ⟨akf,A5,H⟩:=H
      try dsimp only at H
      replace H:=zO H
      obtain ⟨amV,A6,H⟩:=H
      try dsimp only at H
      have H':=aj.mk H
      clear H
      have apE:0≤(gZ:Int):=of_decide_eq_true (by first|(with_reducible assumption)|assumption)
      have apF:gZ < (l0.length:Int):=of_decide_eq_true (by first|(with_reducible assumption)|assumption)
      obtain ⟨aAi,av4,axW⟩:=Kd.jF HR0.out gZ apE apF
      cases av4
      replace apE:=eq_true apE
      replace apF:=eq_true apF
      go_wp2_with (first|((with_reducible refine aA (f:=142) rfl ?_);refine aH (some 14) rfl rfl Tryz.func142 (by kernel_rfl) rfl #[.int .i64 (rd l0 gZ)] rfl zL ?_;(with_reducible refine (iG.calls (rd l0 gZ) akf _ A5.out).mono ?_);rintro e w' ⟨rfl,⟨nd,rfl⟩⟩;refine ⟨_,rfl,?_⟩)|((with_reducible refine aA (f:=147) rfl ?_);refine aH (some 15) rfl rfl Tryz.func147 (by kernel_rfl) rfl #[.int .i64 qH,.int .i64 akf] rfl zL ?_;(with_reducible refine (gK.calls k1 qH akf amV _ A6.out).mono ?_);rintro e w' ⟨rfl,⟨nd,rfl⟩⟩;refine ⟨_,rfl,?_⟩))
      go_roundg k1
      case measure=>have:=HK1.out;omega
      case rel=>exact ⟨(amV),(wrap64 (gZ+1)),zT,zT,H',⟨by have:=HK1.out;omega⟩,zW⟩
     ·rw [if_neg c4] at H
      exact absurd H (by simp)
    ·rw [if_neg c3] at H
     exact absurd H (by simp)
   ·rw [if_neg c2] at H
    have lW:=decide_eq_false c2
    clear c2
    obtain rfl:=Option.some.inj H
    go_wp2
    go_ret
    exact ⟨zT,zW⟩
end Go.Proofs.YtpondkggmcmpfaaGreatDoor.QA
namespace Go.Proofs.YtpondkggmcmpfaaGreatDoor.QA
open Go.Proofs.YtpondkggmcmpfaaGreatDoor.T
open Go.RowKit Go.Proofs.YtpondkggmcmpfaaGreatDoorW.PrintWords Go.Proofs.YtpondkggmcmpfaaGreatDoorW.PrintLast Go.Proofs.YtpondkggmcmpfaaGreatDoorW.PrintMore
attribute [local go_sem] dY dS dU fA fB
set_option linter.unusedVariables false
set_option linter.unusedSimpArgs false
mutual
def bD.j0:Nat→List Int→Int→Bool→Option (List Int × Int)
 | 0,_,_,_=>none
 | k+1,x0,x4,x26=>if x26=true then (some (([]:List Int),7)) else (bD.l0 k x4 ([]:List Int) x0 (x0.length:Int) 0)
def bD.l0:Nat→Int→List Int→List Int→Int→Int→Option (List Int × Int)
 | 0,_,_,_,_,_=>none
 | k+1,x4,x5,x27,x28,x29=>if x29 < x28 then (if 0≤x29 then (if x29 < (x27.length:Int) then ((aX.f k (rd x27 x29) 1073741824 x4).bind fun ahE=>(if x5.length < 17592186044416 then (bD.l0 k x4 (x5 ++ [ahE]) x27 x28 (wrap64 (x29+1))) else (none))) else (none)) else (none)) else (some (x5,0))
end
def bD.f (k:Nat) (l0:List Int):Option (List Int × Int):=(iq.f k l0).bind fun uJ=>(if ((l0.length:Int) % 2)=0 then (bD.j0 k l0 uJ true) else (if (l0.length:Int) > 1024 then (bD.j0 k l0 uJ true) else (if uJ=0 then (bD.j0 k l0 uJ true) else (bD.j0 k l0 uJ (decide (uJ > 1048576))))))
set_option maxHeartbeats 8000000 in
set_option maxRecDepth 100000 in
theorem bD.calls (k:Nat) (A0:Option Addr) (c0:Nat) (l0 r1:List Int) (r2:Int) (w:World) (hr0:Kd.C (Kd.int .i64) w A0 l0.length l0) (hc0:l0.length≤c0) (h:bD.f k l0=some (r1,r2)) :
  Calls Tryz.prog 96 #[.slice A0 l0.length c0] w fun e w'=>∃ v0_:Value,e = .returned (.tuple #[v0_,.int .i64 r2])∧Kd.R (Kd.int .i64) 2 w' w.heap.size (fun _=>True) v0_ r1∧Below w.heap.size w w':=by
 have HR0:=aj.mk hr0
 have HC0:=aj.mk hc0
 clear hr0 hc0
 have HB:=aj.mk (Below.refl w.heap.size w)
 have H:=h
 clear h
 unfold bD.f at H
 replace H:=zO H
 obtain ⟨uJ,A2,H⟩:=H
 try dsimp only at H
 have HC3:=aj.mk H
 clear H
 go_enter Tryz.func96,Tryz.ntmps96
 go_upto_region 2 with (first|((with_reducible refine aA (f:=117) rfl ?_);refine aH (some 9) rfl rfl Tryz.func117 (by kernel_rfl) rfl #[.slice A0 l0.length c0] rfl zL ?_;(with_reducible refine (iq.calls k _ _ l0 uJ _ ?iJ ?iK A2.out).mono ?_);(case iJ=>repeat (first|exact HR0.out|(with_reducible refine Kd.jg ?_ _)|(with_reducible refine Kd.jE ?_ _)|(with_reducible refine Kd.kJ ?_)));(case iK=>exact HC0.out);rintro e w' ⟨rfl,⟨nd,rfl⟩⟩;refine ⟨_,rfl,?_⟩))
 (try simp only [Act.put,List.setIfInBounds_toArray,List.set_cons_zero,List.set_cons_succ])
 go_cut [26] (fun v26 wc=>∃ (kq:Nat) (aa7:Bool),v26 = .bool aa7∧aj (bD.j0 kq l0 uJ aa7=some (r1,r2))∧aj (kq≤k)∧aj (Below w.heap.size w wc))
 case first =>
  have H:=HC3.out
  clear HC3
  by_cases c4:((l0.length:Int) % 2)=0
  ·rw [if_pos c4] at H
   have fV:(((l0.length:Int) % 2) == 0)=true:=beq_iff_eq.mpr c4
   have acS:(((l0.length:Int) % 2) != 0)=false:=bne_eq_false_iff_eq.mpr c4
   clear c4
   (first|rw [fV]|(simp only [bW,dA];rw [fV])|skip)
   have H':=aj.mk H
   clear H
   go_wp2
   go_meet
   case rel=>exact ⟨_,(true),zT,H',⟨by first|omega|exact Nat.le_refl _⟩,⟨zB⟩⟩
  ·rw [if_neg c4] at H
   have fV:(((l0.length:Int) % 2) == 0)=false:=beq_eq_false_iff_ne.mpr c4
   have acS:(((l0.length:Int) % 2) != 0)=true:=bne_iff_ne.mpr c4
   (first|rw [fV]|(simp only [bW,dA];rw [fV])|skip)
   by_cases c5:(l0.length:Int) > 1024
   ·rw [if_pos c5] at H
    have iM:=decide_eq_true c5
    have abA:decide (1024 < l0.length)=true:=decide_eq_true (by omega)
    clear c5
    have H':=aj.mk H
    clear H
    go_wp2
    go_meet
    case rel=>exact ⟨_,(true),zT,H',⟨by first|omega|exact Nat.le_refl _⟩,⟨zB⟩⟩
   ·rw [if_neg c5] at H
    have iM:=decide_eq_false c5
    have abA:decide (1024 < l0.length)=false:=decide_eq_false (by omega)
    clear c5
    by_cases c6:uJ=0
    ·rw [if_pos c6] at H
     have iy:(uJ == 0)=true:=beq_iff_eq.mpr c6
     have uD:(uJ != 0)=false:=bne_eq_false_iff_eq.mpr c6
     clear c6
     have H':=aj.mk H
     clear H
     go_wp2
     go_meet
     case rel=>exact ⟨_,(true),zT,H',⟨by first|omega|exact Nat.le_refl _⟩,⟨zB⟩⟩
    ·rw [if_neg c6] at H
     have iy:(uJ == 0)=false:=beq_eq_false_iff_ne.mpr c6
     have uD:(uJ != 0)=true:=bne_iff_ne.mpr c6
     have H':=aj.mk H
     clear H
     go_wp2
     go_meet
     case rel=>exact ⟨_,(decide (uJ > 1048576)),zT,H',⟨by first|omega|exact Nat.le_refl _⟩,⟨zB⟩⟩
 case rest =>
  clear HC3
  obtain ⟨kq,aa7,rfl,HA,HJ2,HB⟩:=hcut
  cases kq with
  | zero=>exact absurd HA.out (by simp [bD.j0])
  | succ kj2 =>
   have H:=HA.out
   clear HA
   simp only [bD.j0] at H
   by_cases c7:aa7=true
   ·subst c7
    rw [if_pos rfl] at H;try dsimp only at H
    simp only [Option.some.injEq,Prod.mk.injEq] at H
    obtain ⟨rfl,rfl⟩:=H
    go_wp2
    go_ret2
    exact ⟨_,zS,by first|exact Kd.kF _ _ _ _ _|exact Kd.oQ _ _ _ _ _|exact Kd.nN _ _ _ _ _|exact Kd.oU _ _ _ _ _|exact Kd.oK _ _ _ _ _,zB⟩
   ·replace c7:=Bool.eq_false_iff.mpr c7
    subst c7
    rw [if_neg (show ¬ (false=true) by decide)] at H;try dsimp only at H
    have H':=aj.mk H
    clear H
    go_wp2
    go_loopg [5,29] kj2 (fun kq v5 v29 w'=>∃ (lX:List Int) (lQ:Int),v29 = .int .i64 lQ∧aj (bD.l0 kq uJ lX l0 (l0.length:Int) lQ=some (r1,r2))∧aj (kq≤kj2)∧aj (Kd.R (Kd.int .i64) 2 w' w.heap.size (fun _=>True) v5 lX)∧aj (Below w.heap.size w w'))
    case atStart=>exact ⟨(([]:List Int)),(0),zT,H',⟨Nat.le_refl _⟩,⟨by first|exact Kd.kF _ _ _ _ _|exact Kd.oQ _ _ _ _ _|exact Kd.nN _ _ _ _ _|exact Kd.oU _ _ _ _ _|exact Kd.oK _ _ _ _ _⟩,⟨zB⟩⟩
    case round =>
     clear H'
     obtain ⟨lX,lQ,rfl,HA,HK2,wK,HB⟩:=hrel
     cases gk with
     | zero=>exact absurd HA.out (by simp [bD.l0])
     | succ k2 =>
      have H:=HA.out
      clear HA
      simp only [bD.l0] at H
      by_cases c8:lQ < (l0.length:Int)
      ·rw [if_pos c8] at H
       have vX:=decide_eq_true c8
       clear c8
       by_cases c9:0≤lQ
       ·rw [if_pos c9] at H
        have qO:=decide_eq_true c9
        clear c9
        by_cases c10:lQ < (l0.length:Int)
        ·rw [if_pos c10] at H
         have qg:=decide_eq_true c10
         clear c10
         replace H:=zO H
         obtain ⟨ahE,A11,H⟩:=H
         try dsimp only at H
         by_cases c12:lX.length < 17592186044416
         ·rw [if_pos c12] at H
          have auV:=aj.mk c12
          clear c12
          obtain ⟨as1,agO⟩:∃ y_:List Int,y_=(lX ++ [ahE]):=⟨_,rfl⟩
          replace H:(bD.l0 k2 uJ as1 l0 (l0.length:Int) (wrap64 (lQ+1)))=some (r1,r2):=by first|(rw [agO];with_reducible exact H)|(have H2_:=(Option.bind_some _ _).symm.trans H;rw [agO];with_reducible exact H2_)|(have H2_:=(Option.bind_some _ _).symm.trans H;with_reducible exact H2_)|with_reducible exact H|(rw [agO];exact H)|exact H
          have auW:=aj.mk agO
          clear agO
          have H':=aj.mk H
          clear H
          have apG:0≤(lQ:Int):=of_decide_eq_true (by first|(with_reducible assumption)|assumption)
          have apH:lQ < (l0.length:Int):=of_decide_eq_true (by first|(with_reducible assumption)|assumption)
          obtain ⟨aAj,av5,ahF⟩:=Kd.jF HR0.out lQ apG apH
          cases av5
          replace ahF:=(HB.out.cell (World.block_lt_of_cell? w _ ahF)).trans ahF
          replace apG:=eq_true apG
          replace apH:=eq_true apH
          go_wp2_with (first|((with_reducible refine aA (f:=118) rfl ?_);refine aH (some 36) rfl rfl Tryz.func118 (by kernel_rfl) rfl #[.int .i64 (rd l0 lQ),.int .i64 1073741824,.int .i64 uJ] rfl zL ?_;(with_reducible refine (aX.calls k2 (rd l0 lQ) 1073741824 uJ ahE _ A11.out).mono ?_);rintro e w13 ⟨rfl,hb⟩;refine ⟨_,rfl,?_⟩;obtain ⟨wK,HB⟩:=zA2 (Kd.jQ (by (with_reducible repeat (first|apply Kd.aK|apply Kd.aQ|apply Kd.aW));exact wK.out) hb) (ak zB hb);(try clear hb))|((with_reducible refine jG (b := .append) (xs := #[.tmp 33,.tmp 37]) rfl ?_);(try (refine kG (by rfl) ?_;dsimp only));at_builtin;refine Kd.kZ (Kd.int .i64) (w0:=w) w.heap.size rfl (.tmp 33) (.tmp 37) 44 2 (.int .i64 0) 8 rfl Tryz.underlying44 vM rfl (by decide) (by omega) u5 lX ahE [.int .i64 ahE] (fun _=>True) (fun _=>False) rfl rfl ?aP (fun _ hk=>hk.elim) ?aF ?aO ?aB ?aS ?aL ?_;(case aP=>exact rfl);(case aB=>exact zB);(case aF=>exact (fun _ _=>trivial));(case aO=>exact (by (with_reducible repeat (first|apply Kd.aK|apply Kd.aQ|apply Kd.aW));exact wK.out));(case aS=>exact (bF zB));(case aL=>have:=auV.out;omega);intro aBf w14 ho hb hg hat;rw [← auW.out] at ho;obtain ⟨HB,auX⟩:=zA2 hb ho;clear ho hb hg hat))
          go_roundg k2
          case measure=>have:=HJ2.out;have:=HK2.out;omega
          case rel=>exact ⟨(as1),(wrap64 (lQ+1)),zT,H',⟨by have:=HJ2.out;have:=HK2.out;omega⟩,⟨by (with_reducible repeat (first|apply Kd.aK|apply Kd.aQ|apply Kd.aW));exact auX.out⟩,⟨zB⟩⟩
         ·rw [if_neg c12] at H
          exact absurd H (by simp)
        ·rw [if_neg c10] at H
         exact absurd H (by simp)
       ·rw [if_neg c9] at H
        exact absurd H (by simp)
      ·rw [if_neg c8] at H
       have vX:=decide_eq_false c8
       clear c8
       simp only [Option.some.injEq,Prod.mk.injEq] at H
       obtain ⟨rfl,rfl⟩:=H
       go_wp2
       go_ret2
       exact ⟨_,zS,by (with_reducible repeat (first|apply Kd.aK|apply Kd.aQ|apply Kd.aW));exact wK.out,zB⟩
end Go.Proofs.YtpondkggmcmpfaaGreatDoor.QA
namespace Go.Proofs.YtpondkggmcmpfaaGreatDoor.QA
open Go.Proofs.YtpondkggmcmpfaaGreatDoor.T
open Go.RowKit Go.Proofs.YtpondkggmcmpfaaGreatDoorW.PrintWords Go.Proofs.YtpondkggmcmpfaaGreatDoorW.PrintLast Go.Proofs.YtpondkggmcmpfaaGreatDoorW.PrintMore
attribute [local go_sem] dY dS dU fA fB
set_option linter.unusedVariables false
set_option linter.unusedSimpArgs false
mutual
def dO.j0:Nat→Int→Bool→Option (List Int × Int)
 | 0,_,_=>none
 | k+1,x0,x10=>if x10=true then (some (([]:List Int),7)) else (dO.l0 k ([]:List Int) (wrap64 ((wrap64 (2*x0))+1)) 0)
def dO.l0:Nat→List Int→Int→Int→Option (List Int × Int)
 | 0,_,_,_=>none
 | k+1,x4,x13,x14=>if x14 < x13 then (if x4.length < 17592186044416 then (dO.l0 k (x4 ++ [1]) x13 (wrap64 (x14+1))) else (none)) else ((bD.f k x4).bind fun aq3=>(some (aq3.1,aq3.2)))
end
def dO.f (k:Nat) (a0:Int):Option (List Int × Int):=if a0 < 0 then (dO.j0 k a0 true) else (dO.j0 k a0 (decide (a0 > 511)))
set_option maxHeartbeats 8000000 in
set_option maxRecDepth 100000 in
theorem dO.calls (k:Nat) (a0:Int) (r1:List Int) (r2:Int) (w:World) (h:dO.f k a0=some (r1,r2)) :
  Calls Tryz.prog 95 #[.int .i64 a0] w fun e w'=>∃ v0_:Value,e = .returned (.tuple #[v0_,.int .i64 r2])∧Kd.R (Kd.int .i64) 2 w' w.heap.size (fun _=>True) v0_ r1∧Below w.heap.size w w':=by
 have HB:=aj.mk (Below.refl w.heap.size w)
 have H:=h
 clear h
 unfold dO.f at H
 have HC2:=aj.mk H
 clear H
 go_enter Tryz.func95,Tryz.ntmps95
 go_upto_region 1 with (fail)
 go_cut [10] (fun v10 wc=>∃ (kq:Nat) (vV:Bool),v10 = .bool vV∧aj (dO.j0 kq a0 vV=some (r1,r2))∧aj (kq≤k)∧aj (Below w.heap.size w wc))
 case first =>
  have H:=HC2.out
  clear HC2
  by_cases c3:a0 < 0
  ·rw [if_pos c3] at H
   have fQ:=decide_eq_true c3
   clear c3
   (first|rw [fQ]|(simp only [bW,dA];rw [fQ])|skip)
   have H':=aj.mk H
   clear H
   go_wp2
   go_meet
   case rel=>exact ⟨_,(true),zT,H',⟨by first|omega|exact Nat.le_refl _⟩,⟨zB⟩⟩
  ·rw [if_neg c3] at H
   have fQ:=decide_eq_false c3
   clear c3
   (first|rw [fQ]|(simp only [bW,dA];rw [fQ])|skip)
   have H':=aj.mk H
   clear H
   go_wp2
   go_meet
   case rel=>exact ⟨_,(decide (a0 > 511)),zT,H',⟨by first|omega|exact Nat.le_refl _⟩,⟨zB⟩⟩
 case rest =>
  clear HC2
  obtain ⟨kq,vV,rfl,HA,HJ1,HB⟩:=hcut
  cases kq with
  | zero=>exact absurd HA.out (by simp [dO.j0])
  | succ kj1 =>
   have H:=HA.out
   clear HA
   simp only [dO.j0] at H
   by_cases c4:vV=true
   ·subst c4
    rw [if_pos rfl] at H;try dsimp only at H
    simp only [Option.some.injEq,Prod.mk.injEq] at H
    obtain ⟨rfl,rfl⟩:=H
    go_wp2
    go_ret2
    exact ⟨_,zS,by first|exact Kd.kF _ _ _ _ _|exact Kd.oQ _ _ _ _ _|exact Kd.nN _ _ _ _ _|exact Kd.oU _ _ _ _ _|exact Kd.oK _ _ _ _ _,zB⟩
   ·replace c4:=Bool.eq_false_iff.mpr c4
    subst c4
    rw [if_neg (show ¬ (false=true) by decide)] at H;try dsimp only at H
    have H':=aj.mk H
    clear H
    go_wp2
    go_loopg [4,14] kj1 (fun kq v4 v14 w'=>∃ (vI:List Int) (yN:Int),v14 = .int .i64 yN∧aj (dO.l0 kq vI (wrap64 ((wrap64 (2*a0))+1)) yN=some (r1,r2))∧aj (kq≤kj1)∧aj (Kd.R (Kd.int .i64) 2 w' w.heap.size (fun _=>True) v4 vI)∧aj (Below w.heap.size w w'))
    case atStart=>exact ⟨(([]:List Int)),(0),zT,H',⟨Nat.le_refl _⟩,⟨by first|exact Kd.kF _ _ _ _ _|exact Kd.oQ _ _ _ _ _|exact Kd.nN _ _ _ _ _|exact Kd.oU _ _ _ _ _|exact Kd.oK _ _ _ _ _⟩,⟨zB⟩⟩
    case round =>
     clear H'
     obtain ⟨vI,yN,rfl,HA,HK2,afR,HB⟩:=hrel
     cases gk with
     | zero=>exact absurd HA.out (by simp [dO.l0])
     | succ k2 =>
      have H:=HA.out
      clear HA
      simp only [dO.l0] at H
      by_cases c5:yN < (wrap64 ((wrap64 (2*a0))+1))
      ·rw [if_pos c5] at H
       have iM:=decide_eq_true c5
       clear c5
       by_cases c6:vI.length < 17592186044416
       ·rw [if_pos c6] at H
        have av6:=aj.mk c6
        clear c6
        obtain ⟨as2,agP⟩:∃ y_:List Int,y_=(vI ++ [1]):=⟨_,rfl⟩
        replace H:(dO.l0 k2 as2 (wrap64 ((wrap64 (2*a0))+1)) (wrap64 (yN+1)))=some (r1,r2):=by first|(rw [agP];with_reducible exact H)|(have H2_:=(Option.bind_some _ _).symm.trans H;rw [agP];with_reducible exact H2_)|(have H2_:=(Option.bind_some _ _).symm.trans H;with_reducible exact H2_)|with_reducible exact H|(rw [agP];exact H)|exact H
        have auY:=aj.mk agP
        clear agP
        have H':=aj.mk H
        clear H
        go_wp2_with (first|((with_reducible refine jG (b := .append) (xs := #[.tmp 16,.tmp 17]) rfl ?_);at_builtin;refine Kd.kZ (Kd.int .i64) (w0:=w) w.heap.size rfl (.tmp 16) (.tmp 17) 44 2 (.int .i64 0) 8 rfl Tryz.underlying44 vM rfl (by decide) (by omega) u4 vI 1 [.int .i64 1] (fun _=>True) (fun _=>False) rfl rfl ?aP (fun _ hk=>hk.elim) ?aF ?aO ?aB ?aS ?aL ?_;(case aP=>exact rfl);(case aB=>exact zB);(case aF=>exact (fun _ _=>trivial));(case aO=>exact (by (with_reducible repeat (first|apply Kd.aK|apply Kd.aQ|apply Kd.aW));exact afR.out));(case aS=>exact (bF zB));(case aL=>have:=av6.out;omega);intro aBg w7 ho hb hg hat;rw [← auY.out] at ho;obtain ⟨HB,auZ⟩:=zA2 hb ho;clear ho hb hg hat))
        go_roundg k2
        case measure=>have:=HJ1.out;have:=HK2.out;omega
        case rel=>exact ⟨(as2),(wrap64 (yN+1)),zT,H',⟨by have:=HJ1.out;have:=HK2.out;omega⟩,⟨by (with_reducible repeat (first|apply Kd.aK|apply Kd.aQ|apply Kd.aW));exact auZ.out⟩,⟨zB⟩⟩
       ·rw [if_neg c6] at H
        exact absurd H (by simp)
      ·rw [if_neg c5] at H
       have iM:=decide_eq_false c5
       clear c5
       replace H:=zO H
       obtain ⟨⟨av7,av8⟩,A8,H⟩:=H
       try dsimp only at H
       simp only [Option.some.injEq,Prod.mk.injEq] at H
       obtain ⟨rfl,rfl⟩:=H
       obtain ⟨Ao9,co9,eo9⟩:=Kd.gB afR.out
       subst eo9
       go_wp2_with (first|((with_reducible refine aA (f:=96) rfl ?_);refine aH (some 21) rfl rfl Tryz.func96 (by kernel_rfl) rfl #[.slice Ao9 vI.length co9] rfl zL ?_;(with_reducible refine (bD.calls k2 _ _ vI av7 av8 _ ?iJ ?iK A8.out).mono ?_);(case iJ=>repeat (first|exact (Kd.dM afR.out).2.2|(with_reducible refine Kd.jg ?_ _)|(with_reducible refine Kd.jE ?_ _)|(with_reducible refine Kd.kJ ?_)));(case iK=>exact (Kd.dM afR.out).2.1);rintro e w10 ⟨aBh,rfl,ho0,hb⟩;refine ⟨_,rfl,?_⟩;obtain ⟨afR,au0,HB⟩:=zA3 (Kd.iF (by (with_reducible repeat (first|apply Kd.aK|apply Kd.aQ|apply Kd.aW));exact afR.out) (Kd.jd ho0) hb) (Kd.fZ (Kd.jR ho0 (Kd.lg (by (with_reducible repeat (first|apply Kd.aK|apply Kd.aQ|apply Kd.aW));exact afR.out))) (bF zB)) (ak zB hb);(try clear hb);(try clear ho0)))
       go_ret2
       exact ⟨_,zS,by (with_reducible repeat (first|apply Kd.aK|apply Kd.aQ|apply Kd.aW));exact Kd.eF au0.out (fun _ hk=>trivial),zB⟩
def rU.f (a0:Int):Option (Bool):=if a0≥1 then (some (decide (a0≤4096))) else (some false)
set_option maxHeartbeats 8000000 in
set_option maxRecDepth 100000 in
theorem rU.calls (a0:Int) (r:Bool) (w:World) (h:rU.f a0=some r) :
  Calls Tryz.prog 61 #[.int .i64 a0] w fun e w'=>e = .returned (.bool r)∧dw w w':=by
 have H:=h
 clear h
 unfold rU.f at H
 by_cases c2:a0≥1
 ·rw [if_pos c2] at H
  have lW:=decide_eq_true c2
  clear c2
  obtain rfl:=Option.some.inj H
  go_enter Tryz.func61,Tryz.ntmps61
  go_wp2
  go_ret
  exact ⟨zT,zW⟩
 ·rw [if_neg c2] at H
  have lW:=decide_eq_false c2
  clear c2
  obtain rfl:=Option.some.inj H
  go_enter Tryz.func61,Tryz.ntmps61
  go_wp2
  go_ret
  exact ⟨zT,zW⟩
def uK.f (a0 a1:Int):Option (Int):=if a1=0 then (none) else (some (wrap64 (Int.tdiv (wrap64 ((wrap64 (a0+a1)) - 1)) a1)))
set_option maxHeartbeats 8000000 in
set_option maxRecDepth 100000 in
theorem uK.calls (a0 a1 r:Int) (w:World) (h:uK.f a0 a1=some r) :
  Calls Tryz.prog 65 #[.int .i64 a0,.int .i64 a1] w fun e w'=>e = .returned (.int .i64 r)∧dw w w':=by
 have H:=h
 clear h
 unfold uK.f at H
 by_cases c3:a1=0
 ·rw [if_pos c3] at H
  exact absurd H (by simp)
 ·rw [if_neg c3] at H
  have fQ:(a1 == 0)=false:=beq_eq_false_iff_ne.mpr c3
  have wS:(a1 != 0)=true:=bne_iff_ne.mpr c3
  obtain rfl:=Option.some.inj H
  go_enter Tryz.func65,Tryz.ntmps65
  go_wp2
  go_ret
  exact ⟨zT,zW⟩
end Go.Proofs.YtpondkggmcmpfaaGreatDoor.QA
namespace Go.Proofs.YtpondkggmcmpfaaGreatDoor.QA
open Go.Proofs.YtpondkggmcmpfaaGreatDoor.T
open Go.RowKit Go.Proofs.YtpondkggmcmpfaaGreatDoorW.PrintWords Go.Proofs.YtpondkggmcmpfaaGreatDoorW.PrintLast Go.Proofs.YtpondkggmcmpfaaGreatDoorW.PrintMore
attribute [local go_sem] dY dS dU fA fB
set_option linter.unusedVariables false
set_option linter.unusedSimpArgs false
end Go.Proofs.YtpondkggmcmpfaaGreatDoor.QA
namespace Go.Proofs.YtpondkggmcmpfaaGreatDoor.QA
open Go.Proofs.YtpondkggmcmpfaaGreatDoor.T
open Go.RowKit Go.Proofs.YtpondkggmcmpfaaGreatDoorW.PrintWords Go.Proofs.YtpondkggmcmpfaaGreatDoorW.PrintLast Go.Proofs.YtpondkggmcmpfaaGreatDoorW.PrintMore
attribute [local go_sem] dY dS dU fA fB
set_option linter.unusedVariables false
set_option linter.unusedSimpArgs false
end Go.Proofs.YtpondkggmcmpfaaGreatDoor.QA
namespace Go.Proofs.YtpondkggmcmpfaaGreatDoor.QA
open Go.Proofs.YtpondkggmcmpfaaGreatDoor.T
open Go.RowKit Go.Proofs.YtpondkggmcmpfaaGreatDoorW.PrintWords Go.Proofs.YtpondkggmcmpfaaGreatDoorW.PrintLast Go.Proofs.YtpondkggmcmpfaaGreatDoorW.PrintMore
attribute [local go_sem] dY dS dU fA fB
set_option linter.unusedVariables false
set_option linter.unusedSimpArgs false
end Go.Proofs.YtpondkggmcmpfaaGreatDoor.QA
namespace Go.Proofs.YtpondkggmcmpfaaGreatDoor.QA
open Go.Proofs.YtpondkggmcmpfaaGreatDoor.T
open Go.RowKit Go.Proofs.YtpondkggmcmpfaaGreatDoorW.PrintWords Go.Proofs.YtpondkggmcmpfaaGreatDoorW.PrintLast Go.Proofs.YtpondkggmcmpfaaGreatDoorW.PrintMore
attribute [local go_sem] dY dS dU fA fB
set_option linter.unusedVariables false
set_option linter.unusedSimpArgs false
end Go.Proofs.YtpondkggmcmpfaaGreatDoor.QA
