/- Joined by wip/tools/bundle.py out of: QAx9 QAx10 QAx14 QAx15 QAx16 QAx21 QAx22 QAx23. -/
import Derived.Test.YtpondkggmcmpfaaGreatDoorBPlanCovers0
import Derived.Test.YtpondkggmcmpfaaGreatDoorBPlanCovers1
import Derived.Test.YtpondkggmcmpfaaGreatDoorBPlanCovers2
namespace Go.Proofs.YtpondkggmcmpfaaGreatDoor.QA
open Go.Proofs.YtpondkggmcmpfaaGreatDoor.T
open Go.RowKit Go.Proofs.YtpondkggmcmpfaaGreatDoorW.PrintWords Go.Proofs.YtpondkggmcmpfaaGreatDoorW.PrintLast Go.Proofs.YtpondkggmcmpfaaGreatDoorW.PrintMore
attribute [local go_sem] dY dS dU fA fB
set_option linter.unusedVariables false
set_option linter.unusedSimpArgs false
def dD.j0:Nat→Bool→Int→Int→Bool→Option (Int)
 | 0,_,_,_,_=>none
 | k+1,x9,x10,x11,x59=>if x59=true then ((cO.f k x10 x11 x9).bind fun ap7=>(some ap7)) else ((cO.f k (IntKind.u64.wrap (x10+(o8 x11 1 0))) (o7 x11 1 0) x9).bind fun ap8=>(some ap8))
def dD.f (k:Nat) (a0 a1 a2:Int):Option (Int):=if (mx 0 a2)≥128 then (some 0) else ((ku.f a0 a1).bind fun lU=>(if (mx 0 a2)=0 then ((cO.f k lU.1 lU.2.1 lU.2.2).bind fun akC=>(some akC)) else ((nV.f lU.1 lU.2.1 (mx 0 a2)).bind fun wO=>((nV.f lU.1 lU.2.1 (wrap64 ((mx 0 a2) - 1))).bind fun anb=>(if (Go.bits .and .u64 anb.2 1)=0 then (dD.j0 k lU.2.2 wO.1 wO.2 true) else (if lU.2.2=true then ((ru.f lU.1 lU.2.1 (wrap64 ((mx 0 a2) - 1))).bind fun ahZ=>(dD.j0 k lU.2.2 wO.1 wO.2 ahZ)) else (dD.j0 k lU.2.2 wO.1 wO.2 false)))))))
theorem dD.iU:∀ k,(∀ y0 y1 y2 y3,LeO (dD.j0 k y0 y1 y2 y3) (dD.j0 (k+1) y0 y1 y2 y3))
 | 0=>fun _ _ _ _ r h=>by simp [dD.j0] at h
 | k+1=>by
  have ih0:=dD.iU k
  ·intro y0 y1 y2 y3
   unfold dD.j0
   repeat' (with_reducible first|exact ih0 _ _ _ _|exact cO.mono _ _ _ _|exact zM|refine LeO.ite ?_ ?_|refine LeO.bind ?_ (fun _ => ?_))
theorem dD.mono:∀ a0 a1 a2 k,LeO (dD.f k a0 a1 a2) (dD.f (k+1) a0 a1 a2):=by
 intro a0 a1 a2 k
 have ih0:=dD.iU k
 unfold dD.f
 repeat' (with_reducible first|exact ih0 _ _ _ _|exact cO.mono _ _ _ _|exact zM|refine LeO.ite ?_ ?_|refine LeO.bind ?_ (fun _ => ?_))
set_option maxHeartbeats 8000000 in
set_option maxRecDepth 100000 in
theorem dD.calls (k:Nat) (a0 a1 a2 r:Int) (w:World) (h:dD.f k a0 a1 a2=some r) :
  Calls Tryz.prog 176 #[.int .i64 a0,.int .i64 a1,.int .i64 a2] w fun e w'=>e = .returned (.int .i64 r)∧Below w.heap.size w w':=by
 have HB:=aj.mk (Below.refl w.heap.size w)
 have H:=h
 clear h
 unfold dD.f at H
 obtain ⟨ji4,xU⟩:∃ j_:Int,(mx 0 a2)=j_:=⟨_,rfl⟩
 replace H:(if (ji4)≥128 then (some 0) else ((ku.f a0 a1).bind fun lU=>(if (ji4)=0 then ((cO.f k lU.1 lU.2.1 lU.2.2).bind fun akC=>(some akC)) else ((nV.f lU.1 lU.2.1 (ji4)).bind fun wO=>((nV.f lU.1 lU.2.1 (wrap64 ((ji4) - 1))).bind fun anb=>(if (Go.bits .and .u64 anb.2 1)=0 then (dD.j0 k lU.2.2 wO.1 wO.2 true) else (if lU.2.2=true then ((ru.f lU.1 lU.2.1 (wrap64 ((ji4) - 1))).bind fun ahZ=>(dD.j0 k lU.2.2 wO.1 wO.2 ahZ)) else (dD.j0 k lU.2.2 wO.1 wO.2 false))))))))=some r:=by first|(rw [xU] at H;exact H)|(simp only [xU] at H ⊢;exact H)
 (try (have aq7:0≤ji4:=by (rw [← xU];unfold mx;(repeat' split) <;> omega)))
 (try (have aAA:0≤ji4:=by omega))
 have aAB:(if 0 < a2 then a2 else 0)=ji4:=xU
 by_cases c5:(ji4)≥128
 ·rw [if_pos c5] at H
  have iM:=decide_eq_true c5
  clear c5
  obtain rfl:=Option.some.inj H
  go_enter Tryz.func176,Tryz.ntmps176
  go_wp2
  go_ret
  exact ⟨by first|rfl|(simp [bG,bH] <;> rfl)|(simp only [← xU];first|rfl|(simp [bG,bH] <;> rfl))|(simp [*,bG,bH] <;> rfl),zB⟩
 ·rw [if_neg c5] at H
  have iM:=decide_eq_false c5
  clear c5
  replace H:=zO H
  obtain ⟨⟨t141,adp,t143⟩,A6,H⟩:=H
  try dsimp only at H
  by_cases c7:(ji4)=0
  ·rw [if_pos c7] at H
   have jw:((ji4) == 0)=true:=beq_iff_eq.mpr c7
   have abl:((ji4) != 0)=false:=bne_eq_false_iff_eq.mpr c7
   clear c7
   replace H:=zO H
   obtain ⟨akC,A8,H⟩:=H
   try dsimp only at H
   obtain rfl:=Option.some.inj H
   go_enter Tryz.func176,Tryz.ntmps176
   go_wp2_with (first|((with_reducible refine aA (f:=154) rfl ?_);refine aH (some 22) rfl rfl Tryz.func154 (by kernel_rfl) rfl #[.int .i64 a0,.int .i64 a1] rfl zL ?_;(with_reducible refine (ku.calls a0 a1 t141 adp t143 _ A6.out).mono ?_);rintro e w' ⟨rfl,⟨nd,rfl⟩⟩;refine ⟨_,rfl,?_⟩)|((with_reducible refine aA (f:=156) rfl ?_);refine aH (some 31) rfl rfl Tryz.func156 (by kernel_rfl) rfl #[.int .u64 t141,.int .u64 adp,.bool t143] rfl zL ?_;(with_reducible refine (cO.calls k t141 adp t143 akC _ A8.out).mono ?_);rintro e w' ⟨rfl,⟨nd,rfl⟩⟩;refine ⟨_,rfl,?_⟩))
   go_ret
   exact ⟨by first|rfl|(simp [bG,bH] <;> rfl)|(simp only [← xU];first|rfl|(simp [bG,bH] <;> rfl))|(simp [*,bG,bH] <;> rfl),zB⟩
  ·rw [if_neg c7] at H
   have jw:((ji4) == 0)=false:=beq_eq_false_iff_ne.mpr c7
   have abl:((ji4) != 0)=true:=bne_iff_ne.mpr c7
   replace H:=zO H
   obtain ⟨⟨t145,t146⟩,A9,H⟩:=H
   try dsimp only at H
   replace H:=zO H
   obtain ⟨⟨awr,t148⟩,A10,H⟩:=H
   try dsimp only at H
   have ap9:=aj.mk H
   clear H
   go_enter Tryz.func176,Tryz.ntmps176
   go_upto_region 9 with (first|((with_reducible refine aA (f:=154) rfl ?_);refine aH (some 22) rfl rfl Tryz.func154 (by kernel_rfl) rfl #[.int .i64 a0,.int .i64 a1] rfl zL ?_;(with_reducible refine (ku.calls a0 a1 t141 adp t143 _ A6.out).mono ?_);rintro e w' ⟨rfl,⟨nd,rfl⟩⟩;refine ⟨_,rfl,?_⟩)|((with_reducible refine aA (f:=188) rfl ?_);refine aH (some 36) rfl rfl Tryz.func188 (by kernel_rfl) rfl #[.int .u64 t141,.int .u64 adp,.int .i64 ji4] rfl (by (try simp only [List.map_toArray,List.map_cons,List.map_nil]);first|done|(simp only [xU];rfl)|(simp only [Int.tdiv_eq_ediv_of_nonneg aq7];rfl)|rfl|(simp only [List.length_drop,List.length_take];rfl)) ?_;(with_reducible refine (nV.calls t141 adp ji4 t145 t146 _ A9.out).mono ?_);rintro e w' ⟨rfl,⟨nd,rfl⟩⟩;refine ⟨_,rfl,?_⟩)|((with_reducible refine aA (f:=188) rfl ?_);refine aH (some 44) rfl rfl Tryz.func188 (by kernel_rfl) rfl #[.int .u64 t141,.int .u64 adp,.int .i64 (wrap64 ((ji4) - 1))] rfl (by (try simp only [List.map_toArray,List.map_cons,List.map_nil]);first|done|(simp only [xU];rfl)|(simp only [Int.tdiv_eq_ediv_of_nonneg aq7];rfl)|rfl|(simp only [List.length_drop,List.length_take];rfl)) ?_;(with_reducible refine (nV.calls t141 adp (wrap64 ((ji4) - 1)) awr t148 _ A10.out).mono ?_);rintro e w' ⟨rfl,⟨nd,rfl⟩⟩;refine ⟨_,rfl,?_⟩))
   (try simp only [Act.put,List.setIfInBounds_toArray,List.set_cons_zero,List.set_cons_succ])
   go_cut [59] (fun v59 wc=>∃ (kq:Nat) (ag2:Bool),v59 = .bool ag2∧aj (dD.j0 kq t143 t145 t146 ag2=some r)∧aj (kq≤k)∧aj (Below w.heap.size w wc))
   case first =>
    have H:=ap9.out
    clear ap9
    by_cases c12:(Go.bits .and .u64 t148 1)=0
    ·rw [if_pos c12] at H
     have aa5:((Go.bits .and .u64 t148 1) == 0)=true:=beq_iff_eq.mpr c12
     have au9:((Go.bits .and .u64 t148 1) != 0)=false:=bne_eq_false_iff_eq.mpr c12
     clear c12
     (first|rw [aa5]|(simp only [bW,dA];rw [aa5])|skip)
     have H':=aj.mk H
     clear H
     go_wp2
     go_meet
     case rel=>exact ⟨_,(true),zT,H',⟨by first|omega|exact Nat.le_refl _⟩,⟨zB⟩⟩
    ·rw [if_neg c12] at H
     have aa5:((Go.bits .and .u64 t148 1) == 0)=false:=beq_eq_false_iff_ne.mpr c12
     have au9:((Go.bits .and .u64 t148 1) != 0)=true:=bne_iff_ne.mpr c12
     (first|rw [aa5]|(simp only [bW,dA];rw [aa5])|skip)
     by_cases c13:t143=true
     ·subst c13
      rw [if_pos rfl] at H;try dsimp only at H
      replace H:=zO H
      obtain ⟨ahZ,A14,H⟩:=H
      try dsimp only at H
      have H':=aj.mk H
      clear H
      go_wp2_with (first|(go_at_call 189;(with_reducible refine (ru.calls t141 adp (wrap64 ((ji4) - 1)) ahZ _ A14.out).mono ?_);rintro e w' ⟨rfl,⟨nd,rfl⟩⟩))
      go_meet
      case rel=>exact ⟨_,(ahZ),zT,H',⟨by first|omega|exact Nat.le_refl _⟩,⟨zB⟩⟩
     ·replace c13:=Bool.eq_false_iff.mpr c13
      subst c13
      rw [if_neg (show ¬ (false=true) by decide)] at H;try dsimp only at H
      have H':=aj.mk H
      clear H
      go_wp2
      go_meet
      case rel=>exact ⟨_,(false),zT,H',⟨by first|omega|exact Nat.le_refl _⟩,⟨zB⟩⟩
   case rest =>
    clear ap9
    obtain ⟨kq,ag2,rfl,HA,aBp,HB⟩:=hcut
    cases kq with
    | zero=>exact absurd HA.out (by simp [dD.j0])
    | succ ath =>
     have H:=HA.out
     clear HA
     simp only [dD.j0] at H
     by_cases c15:ag2=true
     ·subst c15
      rw [if_pos rfl] at H;try dsimp only at H
      replace H:=zO H
      obtain ⟨ap7,A16,H⟩:=H
      try dsimp only at H
      obtain rfl:=Option.some.inj H
      go_wp2_with (first|((with_reducible refine aA (f:=156) rfl ?_);refine aH (some 63) rfl rfl Tryz.func156 (by kernel_rfl) rfl #[.int .u64 t145,.int .u64 t146,.bool t143] rfl zL ?_;(with_reducible refine (cO.calls ath t145 t146 t143 ap7 _ A16.out).mono ?_);rintro e w' ⟨rfl,⟨nd,rfl⟩⟩;refine ⟨_,rfl,?_⟩))
      go_ret
      exact ⟨by first|rfl|(simp [bG,bH] <;> rfl)|(simp only [← xU];first|rfl|(simp [bG,bH] <;> rfl))|(simp [*,bG,bH] <;> rfl),zB⟩
     ·replace c15:=Bool.eq_false_iff.mpr c15
      subst c15
      rw [if_neg (show ¬ (false=true) by decide)] at H;try dsimp only at H
      replace H:=zO H
      obtain ⟨ap8,A17,H⟩:=H
      try dsimp only at H
      obtain rfl:=Option.some.inj H
      go_wp2_with (first|((with_reducible refine aA (f:=156) rfl ?_);refine aH (some 74) rfl rfl Tryz.func156 (by kernel_rfl) rfl #[.int .u64 (IntKind.u64.wrap (t145+(o8 t146 1 0))),.int .u64 (o7 t146 1 0),.bool t143] rfl zL ?_;(with_reducible refine (cO.calls ath (IntKind.u64.wrap (t145+(o8 t146 1 0))) (o7 t146 1 0) t143 ap8 _ A17.out).mono ?_);rintro e w' ⟨rfl,⟨nd,rfl⟩⟩;refine ⟨_,rfl,?_⟩))
      go_ret
      exact ⟨by first|rfl|(simp [bG,bH] <;> rfl)|(simp only [← xU];first|rfl|(simp [bG,bH] <;> rfl))|(simp [*,bG,bH] <;> rfl),zB⟩
def eG.l0:Nat→Int→Int→Int→Int→Int→Option (Int)
 | 0,_,_,_,_,_=>none
 | k+1,x5,x6,x7,x8,x9=>if x9≤30 then ((aZ.f k x7 x5 (wrap64 ((wrap64 ((wrap64 (2*x9))*(wrap64 ((wrap64 (2*x9))+1))))*1099511627776))).bind fun ah0=>(eG.l0 k x5 (wrap64 (x6+(wrap64 ((wrap64 (-x8))*ah0)))) ah0 (wrap64 (-x8)) (wrap64 (x9+1)))) else (some x6)
def eG.f (k:Nat) (a0 a1:Int):Option (Int):=(rC.f a0).bind fun t152=>((aZ.f k 10851744800547 t152 a1).bind fun akD=>((aZ.f k akD t152 a1).bind fun t154=>(eG.l0 k t154 1099511627776 1099511627776 1 1)))
theorem eG.iU:∀ k,(∀ y0 y1 y2 y3 y4,LeO (eG.l0 k y0 y1 y2 y3 y4) (eG.l0 (k+1) y0 y1 y2 y3 y4))
 | 0=>fun _ _ _ _ _ r h=>by simp [eG.l0] at h
 | k+1=>by
  have ih0:=eG.iU k
  ·intro y0 y1 y2 y3 y4
   unfold eG.l0
   repeat' (with_reducible first|exact ih0 _ _ _ _ _|exact aZ.mono _ _ _ _|exact zM|refine LeO.ite ?_ ?_|refine LeO.bind ?_ (fun _ => ?_))
theorem eG.mono:∀ a0 a1 k,LeO (eG.f k a0 a1) (eG.f (k+1) a0 a1):=by
 intro a0 a1 k
 have ih0:=eG.iU k
 unfold eG.f
 repeat' (with_reducible first|exact ih0 _ _ _ _ _|exact aZ.mono _ _ _ _|exact zM|refine LeO.ite ?_ ?_|refine LeO.bind ?_ (fun _ => ?_))
set_option maxHeartbeats 8000000 in
set_option maxRecDepth 100000 in
theorem eG.calls (k:Nat) (a0 a1 r:Int) (w:World) (h:eG.f k a0 a1=some r) :
  Calls Tryz.prog 177 #[.int .i64 a0,.int .i64 a1] w fun e w'=>e = .returned (.int .i64 r)∧Below w.heap.size w w':=by
 have HB:=aj.mk (Below.refl w.heap.size w)
 have H:=h
 clear h
 unfold eG.f at H
 replace H:=zO H
 obtain ⟨t152,A3,H⟩:=H
 try dsimp only at H
 replace H:=zO H
 obtain ⟨akD,A4,H⟩:=H
 try dsimp only at H
 replace H:=zO H
 obtain ⟨t154,A5,H⟩:=H
 try dsimp only at H
 have H':=aj.mk H
 clear H
 go_enter Tryz.func177,Tryz.ntmps177
 go_wp2_with (first|((with_reducible refine aA (f:=175) rfl ?_);refine aH (some 11) rfl rfl Tryz.func175 (by kernel_rfl) rfl #[.int .i64 a0] rfl zL ?_;(with_reducible refine (rC.calls a0 t152 _ A3.out).mono ?_);rintro e w6 ⟨rfl,hb⟩;refine ⟨_,rfl,?_⟩;replace HB:=aj.mk (ak zB hb);(try clear hb))|((with_reducible refine aA (f:=130) rfl ?_);refine aH (some 14) rfl rfl Tryz.func130 (by kernel_rfl) rfl #[.int .i64 10851744800547,.int .i64 t152,.int .i64 a1] rfl zL ?_;(with_reducible refine (aZ.calls k 10851744800547 t152 a1 akD _ A4.out).mono ?_);rintro e w' ⟨rfl,⟨nd,rfl⟩⟩;refine ⟨_,rfl,?_⟩)|((with_reducible refine aA (f:=130) rfl ?_);refine aH (some 17) rfl rfl Tryz.func130 (by kernel_rfl) rfl #[.int .i64 akD,.int .i64 t152,.int .i64 a1] rfl zL ?_;(with_reducible refine (aZ.calls k akD t152 a1 t154 _ A5.out).mono ?_);rintro e w' ⟨rfl,⟨nd,rfl⟩⟩;refine ⟨_,rfl,?_⟩))
 go_loopg [6,7,8,9] k (fun kq v6 v7 v8 v9 w'=>∃ (pJ:Int) (akE:Int) (gZ:Int) (sG:Int),v6 = .int .i64 pJ∧v7 = .int .i64 akE∧v8 = .int .i64 gZ∧v9 = .int .i64 sG∧aj (eG.l0 kq t154 pJ akE gZ sG=some r)∧aj (kq≤k)∧aj (Below w.heap.size w w'))
 case atStart=>exact ⟨(1099511627776),(1099511627776),(1),(1),zT,zT,zT,zT,H',⟨Nat.le_refl _⟩,⟨zB⟩⟩
 case round =>
  clear H'
  obtain ⟨pJ,akE,gZ,sG,rfl,rfl,rfl,rfl,HA,HK1,HB⟩:=hrel
  cases gk with
  | zero=>exact absurd HA.out (by simp [eG.l0])
  | succ k1 =>
   have H:=HA.out
   clear HA
   simp only [eG.l0] at H
   by_cases c7:sG≤30
   ·rw [if_pos c7] at H
    have jw:=decide_eq_true c7
    clear c7
    replace H:=zO H
    obtain ⟨ah0,A8,H⟩:=H
    try dsimp only at H
    have H':=aj.mk H
    clear H
    go_wp2_with (first|((with_reducible refine aA (f:=130) rfl ?_);refine aH (some 33) rfl rfl Tryz.func130 (by kernel_rfl) rfl #[.int .i64 akE,.int .i64 t154,.int .i64 (wrap64 ((wrap64 ((wrap64 (2*sG))*(wrap64 ((wrap64 (2*sG))+1))))*1099511627776))] rfl zL ?_;(with_reducible refine (aZ.calls k1 akE t154 (wrap64 ((wrap64 ((wrap64 (2*sG))*(wrap64 ((wrap64 (2*sG))+1))))*1099511627776)) ah0 _ A8.out).mono ?_);rintro e w' ⟨rfl,⟨nd,rfl⟩⟩;refine ⟨_,rfl,?_⟩))
    go_roundg k1
    case measure=>have:=HK1.out;omega
    case rel=>exact ⟨(wrap64 (pJ+(wrap64 ((wrap64 (-gZ))*ah0)))),(ah0),(wrap64 (-gZ)),(wrap64 (sG+1)),zT,zT,zT,zT,H',⟨by have:=HK1.out;omega⟩,⟨zB⟩⟩
   ·rw [if_neg c7] at H
    have jw:=decide_eq_false c7
    clear c7
    obtain rfl:=Option.some.inj H
    go_wp2
    go_ret
    exact ⟨zS,zB⟩
end Go.Proofs.YtpondkggmcmpfaaGreatDoor.QA
namespace Go.Proofs.YtpondkggmcmpfaaGreatDoor.QA
open Go.Proofs.YtpondkggmcmpfaaGreatDoor.T
open Go.RowKit Go.Proofs.YtpondkggmcmpfaaGreatDoorW.PrintWords Go.Proofs.YtpondkggmcmpfaaGreatDoorW.PrintLast Go.Proofs.YtpondkggmcmpfaaGreatDoorW.PrintMore
attribute [local go_sem] dY dS dU fA fB
set_option linter.unusedVariables false
set_option linter.unusedSimpArgs false
def eP.j0:Nat→Int→Int→Bool→Option (Int)
 | 0,_,_,_=>none
 | k+1,x0,x1,x15=>if x15=true then (some 0) else ((eG.f k x0 x1).bind fun akF=>((eG.f k x0 (wrap64 (3*x1))).bind fun t159=>((dD.f k akF t159 40).bind fun t160=>((mO.f t160 10).bind fun aqa=>(some aqa)))))
def eP.f (k:Nat) (a0 a1:Int):Option (Int):=(vZ.f a0 a1).bind fun t156=>(if t156=true then ((rC.f a0).bind fun t157=>(eP.j0 k a0 a1 (decide (t157≥(wrap64 (3*a1)))))) else (eP.j0 k a0 a1 true))
theorem eP.iU:∀ k,(∀ y0 y1 y2,LeO (eP.j0 k y0 y1 y2) (eP.j0 (k+1) y0 y1 y2))
 | 0=>fun _ _ _ r h=>by simp [eP.j0] at h
 | k+1=>by
  have ih0:=eP.iU k
  ·intro y0 y1 y2
   unfold eP.j0
   repeat' (with_reducible first|exact ih0 _ _ _|exact eG.mono _ _ _|exact dD.mono _ _ _ _|exact zM|refine LeO.ite ?_ ?_|refine LeO.bind ?_ (fun _ => ?_))
theorem eP.mono:∀ a0 a1 k,LeO (eP.f k a0 a1) (eP.f (k+1) a0 a1):=by
 intro a0 a1 k
 have ih0:=eP.iU k
 unfold eP.f
 repeat' (with_reducible first|exact ih0 _ _ _|exact eG.mono _ _ _|exact dD.mono _ _ _ _|exact zM|refine LeO.ite ?_ ?_|refine LeO.bind ?_ (fun _ => ?_))
set_option maxHeartbeats 8000000 in
set_option maxRecDepth 100000 in
theorem eP.calls (k:Nat) (a0 a1 r:Int) (w:World) (h:eP.f k a0 a1=some r) :
  Calls Tryz.prog 153 #[.int .i64 a0,.int .i64 a1] w fun e w'=>e = .returned (.int .i64 r)∧Below w.heap.size w w':=by
 have HB:=aj.mk (Below.refl w.heap.size w)
 have H:=h
 clear h
 unfold eP.f at H
 have HC3:=aj.mk H
 clear H
 go_enter Tryz.func153,Tryz.ntmps153
 go_upto_region 1 with (fail)
 go_cut [15] (fun v15 wc=>∃ (kq:Nat) (ajc:Bool),v15 = .bool ajc∧aj (eP.j0 kq a0 a1 ajc=some r)∧aj (kq≤k)∧aj (Below w.heap.size w wc))
 case first =>
  have H:=HC3.out
  clear HC3
  replace H:=zO H
  obtain ⟨t156,A4,H⟩:=H
  try dsimp only at H
  by_cases c5:t156=true
  ·subst c5
   rw [if_pos rfl] at H;try dsimp only at H
   replace H:=zO H
   obtain ⟨t157,A6,H⟩:=H
   try dsimp only at H
   have H':=aj.mk H
   clear H
   go_wp2_with (first|((with_reducible refine aA (f:=174) rfl ?_);refine aH (some 7) rfl rfl Tryz.func174 (by kernel_rfl) rfl #[.int .i64 a0,.int .i64 a1] rfl zL ?_;(with_reducible refine (vZ.calls a0 a1 true _ A4.out).mono ?_);rintro e w' ⟨rfl,⟨nd,rfl⟩⟩;refine ⟨_,rfl,?_⟩)|(go_at_call 175;(with_reducible refine (rC.calls a0 t157 _ A6.out).mono ?_);rintro e w7 ⟨rfl,hb⟩;replace HB:=aj.mk (ak zB hb);(try clear hb)))
   go_meet
   case rel=>exact ⟨_,(decide (t157≥(wrap64 (3*a1)))),zT,H',⟨by first|omega|exact Nat.le_refl _⟩,⟨zB⟩⟩
  ·replace c5:=Bool.eq_false_iff.mpr c5
   subst c5
   rw [if_neg (show ¬ (false=true) by decide)] at H;try dsimp only at H
   have H':=aj.mk H
   clear H
   go_wp2_with (first|((with_reducible refine aA (f:=174) rfl ?_);refine aH (some 7) rfl rfl Tryz.func174 (by kernel_rfl) rfl #[.int .i64 a0,.int .i64 a1] rfl zL ?_;(with_reducible refine (vZ.calls a0 a1 false _ A4.out).mono ?_);rintro e w' ⟨rfl,⟨nd,rfl⟩⟩;refine ⟨_,rfl,?_⟩))
   go_meet
   case rel=>exact ⟨_,(true),zT,H',⟨by first|omega|exact Nat.le_refl _⟩,⟨zB⟩⟩
 case rest =>
  clear HC3
  obtain ⟨kq,ajc,rfl,HA,HJ2,HB⟩:=hcut
  cases kq with
  | zero=>exact absurd HA.out (by simp [eP.j0])
  | succ kj2 =>
   have H:=HA.out
   clear HA
   simp only [eP.j0] at H
   by_cases c8:ajc=true
   ·subst c8
    rw [if_pos rfl] at H;try dsimp only at H
    obtain rfl:=Option.some.inj H
    go_wp2
    go_ret
    exact ⟨zS,zB⟩
   ·replace c8:=Bool.eq_false_iff.mpr c8
    subst c8
    rw [if_neg (show ¬ (false=true) by decide)] at H;try dsimp only at H
    replace H:=zO H
    obtain ⟨akF,A9,H⟩:=H
    try dsimp only at H
    replace H:=zO H
    obtain ⟨t159,A10,H⟩:=H
    try dsimp only at H
    replace H:=zO H
    obtain ⟨t160,A11,H⟩:=H
    try dsimp only at H
    replace H:=zO H
    obtain ⟨aqa,A12,H⟩:=H
    try dsimp only at H
    obtain rfl:=Option.some.inj H
    go_wp2_with (first|((with_reducible refine aA (f:=177) rfl ?_);refine aH (some 18) rfl rfl Tryz.func177 (by kernel_rfl) rfl #[.int .i64 a0,.int .i64 a1] rfl zL ?_;(with_reducible refine (eG.calls kj2 a0 a1 akF _ A9.out).mono ?_);rintro e w13 ⟨rfl,hb⟩;refine ⟨_,rfl,?_⟩;replace HB:=aj.mk (ak zB hb);(try clear hb))|((with_reducible refine aA (f:=177) rfl ?_);refine aH (some 22) rfl rfl Tryz.func177 (by kernel_rfl) rfl #[.int .i64 a0,.int .i64 (wrap64 (3*a1))] rfl zL ?_;(with_reducible refine (eG.calls kj2 a0 (wrap64 (3*a1)) t159 _ A10.out).mono ?_);rintro e w14 ⟨rfl,hb⟩;refine ⟨_,rfl,?_⟩;replace HB:=aj.mk (ak zB hb);(try clear hb))|((with_reducible refine aA (f:=176) rfl ?_);refine aH (some 23) rfl rfl Tryz.func176 (by kernel_rfl) rfl #[.int .i64 akF,.int .i64 t159,.int .i64 40] rfl zL ?_;(with_reducible refine (dD.calls kj2 akF t159 40 t160 _ A11.out).mono ?_);rintro e w15 ⟨rfl,hb⟩;refine ⟨_,rfl,?_⟩;replace HB:=aj.mk (ak zB hb);(try clear hb))|((with_reducible refine aA (f:=100) rfl ?_);refine aH (some 24) rfl rfl Tryz.func100 (by kernel_rfl) rfl #[.int .i64 t160,.int .i64 10] rfl zL ?_;(with_reducible refine (mO.calls t160 10 aqa _ A12.out).mono ?_);rintro e w' ⟨rfl,⟨nd,rfl⟩⟩;refine ⟨_,rfl,?_⟩))
    go_ret
    exact ⟨zS,zB⟩
def nI.f (k:Nat) (a0 a1 a2 a3 a4:Int):Option (Int):=if a0=0 then ((aZ.f k (wrap64 ((mn (wrap64 ((wrap64 (a3+1))*a1)) (wrap64 ((wrap64 (a4+1))*a2))) - (mx (wrap64 (a3*a1)) (wrap64 (a4*a2))))) 1073741824 a1).bind fun t162=>(some t162)) else (if a0=1 then ((fK.f k (wrap64 ((wrap64 ((wrap64 ((wrap64 (2*a2))*a4)) - (wrap64 ((wrap64 ((wrap64 (2*a3))+1))*a1))))+a2)) (wrap64 (2*(mx a1 a2)))).bind fun akG=>(some akG)) else ((eP.f k (wrap64 ((wrap64 ((wrap64 ((wrap64 (2*a2))*a4)) - (wrap64 ((wrap64 ((wrap64 (2*a3))+1))*a1))))+a2)) (wrap64 (2*(mx a1 a2)))).bind fun t164=>(some t164)))
theorem nI.mono:∀ a0 a1 a2 a3 a4 k,LeO (nI.f k a0 a1 a2 a3 a4) (nI.f (k+1) a0 a1 a2 a3 a4):=by
 intro a0 a1 a2 a3 a4 k
 unfold nI.f
 repeat' (with_reducible first|exact fK.mono _ _ _|exact eP.mono _ _ _|exact aZ.mono _ _ _ _|exact zM|refine LeO.ite ?_ ?_|refine LeO.bind ?_ (fun _ => ?_))
set_option maxHeartbeats 8000000 in
set_option maxRecDepth 100000 in
theorem nI.calls (k:Nat) (a0 a1 a2 a3 a4 r:Int) (w:World) (h:nI.f k a0 a1 a2 a3 a4=some r) :
  Calls Tryz.prog 129 #[.int .i64 a0,.int .i64 a1,.int .i64 a2,.int .i64 a3,.int .i64 a4] w fun e w'=>e = .returned (.int .i64 r)∧Below w.heap.size w w':=by
 have HB:=aj.mk (Below.refl w.heap.size w)
 have H:=h
 clear h
 unfold nI.f at H
 by_cases c6:a0=0
 ·rw [if_pos c6] at H
  have iy:(a0 == 0)=true:=beq_iff_eq.mpr c6
  have uD:(a0 != 0)=false:=bne_eq_false_iff_eq.mpr c6
  clear c6
  obtain ⟨ji7,xg⟩:∃ j_:Int,(mn (wrap64 ((wrap64 (a3+1))*a1)) (wrap64 ((wrap64 (a4+1))*a2)))=j_:=⟨_,rfl⟩
  replace H:((aZ.f k (wrap64 ((ji7) - (mx (wrap64 (a3*a1)) (wrap64 (a4*a2))))) 1073741824 a1).bind fun t162=>(some t162))=some r:=by first|(rw [xg] at H;exact H)|(simp only [xg] at H ⊢;exact H)
  have au7:(if (wrap64 ((wrap64 (a4+1))*a2)) < (wrap64 ((wrap64 (a3+1))*a1)) then (wrap64 ((wrap64 (a4+1))*a2)) else (wrap64 ((wrap64 (a3+1))*a1)))=ji7:=xg
  obtain ⟨ji8,pW⟩:∃ j_:Int,(mx (wrap64 (a3*a1)) (wrap64 (a4*a2)))=j_:=⟨_,rfl⟩
  replace H:((aZ.f k (wrap64 ((ji7) - (ji8))) 1073741824 a1).bind fun t162=>(some t162))=some r:=by first|(rw [pW] at H;exact H)|(simp only [pW] at H ⊢;exact H)
  have aq4:(if (wrap64 (a3*a1)) < (wrap64 (a4*a2)) then (wrap64 (a4*a2)) else (wrap64 (a3*a1)))=ji8:=pW
  replace H:=zO H
  obtain ⟨t162,A9,H⟩:=H
  try dsimp only at H
  obtain rfl:=Option.some.inj H
  go_enter Tryz.func129,Tryz.ntmps129
  go_wp2_with (first|((with_reducible refine aA (f:=130) rfl ?_);refine aH (some 35) rfl rfl Tryz.func130 (by kernel_rfl) rfl #[.int .i64 (wrap64 ((ji7) - (ji8))),.int .i64 1073741824,.int .i64 a1] rfl (by (try simp only [List.map_toArray,List.map_cons,List.map_nil]);first|done|(simp only [xg,pW];rfl)|rfl|(simp only [List.length_drop,List.length_take];rfl)) ?_;(with_reducible refine (aZ.calls k (wrap64 ((ji7) - (ji8))) 1073741824 a1 t162 _ A9.out).mono ?_);rintro e w' ⟨rfl,⟨nd,rfl⟩⟩;refine ⟨_,rfl,?_⟩))
  go_ret
  exact ⟨by first|rfl|(simp [bG,bH] <;> rfl)|(simp only [← xg,← pW];first|rfl|(simp [bG,bH] <;> rfl))|(simp [*,bG,bH] <;> rfl),zB⟩
 ·rw [if_neg c6] at H
  have iy:(a0 == 0)=false:=beq_eq_false_iff_ne.mpr c6
  have uD:(a0 != 0)=true:=bne_iff_ne.mpr c6
  obtain ⟨dG,jL⟩:∃ j_:Int,(mx a1 a2)=j_:=⟨_,rfl⟩
  replace H:(if a0=1 then ((fK.f k (wrap64 ((wrap64 ((wrap64 ((wrap64 (2*a2))*a4)) - (wrap64 ((wrap64 ((wrap64 (2*a3))+1))*a1))))+a2)) (wrap64 (2*(dG)))).bind fun akG=>(some akG)) else ((eP.f k (wrap64 ((wrap64 ((wrap64 ((wrap64 (2*a2))*a4)) - (wrap64 ((wrap64 ((wrap64 (2*a3))+1))*a1))))+a2)) (wrap64 (2*(dG)))).bind fun t164=>(some t164)))=some r:=by first|(rw [jL] at H;exact H)|(simp only [jL] at H ⊢;exact H)
  have aks:(if a1 < a2 then a2 else a1)=dG:=jL
  by_cases c11:a0=1
  ·rw [if_pos c11] at H
   have iP:(a0 == 1)=true:=beq_iff_eq.mpr c11
   have yJ:(a0 != 1)=false:=bne_eq_false_iff_eq.mpr c11
   clear c11
   replace H:=zO H
   obtain ⟨akG,A12,H⟩:=H
   try dsimp only at H
   obtain rfl:=Option.some.inj H
   go_enter Tryz.func129,Tryz.ntmps129
   go_wp2_with (first|((with_reducible refine aA (f:=108) rfl ?_);refine aH (some 56) rfl rfl Tryz.func108 (by kernel_rfl) rfl #[.int .i64 (wrap64 ((wrap64 ((wrap64 ((wrap64 (2*a2))*a4)) - (wrap64 ((wrap64 ((wrap64 (2*a3))+1))*a1))))+a2)),.int .i64 (wrap64 (2*(dG)))] rfl (by (try simp only [List.map_toArray,List.map_cons,List.map_nil]);first|done|(simp only [jL];rfl)|(simp only [Int.tdiv_eq_ediv_of_nonneg hji10l];rfl)|rfl|(simp only [List.length_drop,List.length_take];rfl)) ?_;(with_reducible refine (fK.calls k (wrap64 ((wrap64 ((wrap64 ((wrap64 (2*a2))*a4)) - (wrap64 ((wrap64 ((wrap64 (2*a3))+1))*a1))))+a2)) (wrap64 (2*(dG))) akG _ A12.out).mono ?_);rintro e w13 ⟨rfl,hb⟩;refine ⟨_,rfl,?_⟩;replace HB:=aj.mk (ak zB hb);(try clear hb)))
   go_ret
   exact ⟨by first|rfl|(simp [bG,bH] <;> rfl)|(simp only [← jL];first|rfl|(simp [bG,bH] <;> rfl))|(simp [*,bG,bH] <;> rfl),zB⟩
  ·rw [if_neg c11] at H
   have iP:(a0 == 1)=false:=beq_eq_false_iff_ne.mpr c11
   have yJ:(a0 != 1)=true:=bne_iff_ne.mpr c11
   replace H:=zO H
   obtain ⟨t164,A14,H⟩:=H
   try dsimp only at H
   obtain rfl:=Option.some.inj H
   go_enter Tryz.func129,Tryz.ntmps129
   go_wp2_with (first|((with_reducible refine aA (f:=153) rfl ?_);refine aH (some 59) rfl rfl Tryz.func153 (by kernel_rfl) rfl #[.int .i64 (wrap64 ((wrap64 ((wrap64 ((wrap64 (2*a2))*a4)) - (wrap64 ((wrap64 ((wrap64 (2*a3))+1))*a1))))+a2)),.int .i64 (wrap64 (2*(dG)))] rfl (by (try simp only [List.map_toArray,List.map_cons,List.map_nil]);first|done|(simp only [jL];rfl)|(simp only [Int.tdiv_eq_ediv_of_nonneg hji10l];rfl)|rfl|(simp only [List.length_drop,List.length_take];rfl)) ?_;(with_reducible refine (eP.calls k (wrap64 ((wrap64 ((wrap64 ((wrap64 (2*a2))*a4)) - (wrap64 ((wrap64 ((wrap64 (2*a3))+1))*a1))))+a2)) (wrap64 (2*(dG))) t164 _ A14.out).mono ?_);rintro e w15 ⟨rfl,hb⟩;refine ⟨_,rfl,?_⟩;replace HB:=aj.mk (ak zB hb);(try clear hb)))
   go_ret
   exact ⟨by first|rfl|(simp [bG,bH] <;> rfl)|(simp only [← jL];first|rfl|(simp [bG,bH] <;> rfl))|(simp [*,bG,bH] <;> rfl),zB⟩
def iw.l0:Nat→Int→Int→Int→Int→Int→List Int→Int→Int→Option (Int × List Int)
 | 0,_,_,_,_,_,_,_,_=>none
 | k+1,x0,x1,x2,x3,x8,x9,x20,x21=>if x21 < x20 then ((nI.f k x0 x1 x2 x3 (wrap64 (x8+x21))).bind fun t167=>(if x9.length < 17592186044416 then (iw.l0 k x0 x1 x2 x3 x8 (x9 ++ [t167]) x20 (wrap64 (x21+1))) else (none))) else (some (x8,x9))
def iw.f (k:Nat) (a0 a1 a2 a3:Int):Option (Int × List Int):=(kQ.f k a0 a1 a2 a3).bind fun aq8=>(iw.l0 k a0 a1 a2 a3 aq8.1 ([]:List Int) aq8.2 0)
theorem iw.iU:∀ k,(∀ y0 y1 y2 y3 y4 y5 y6 y7,LeO (iw.l0 k y0 y1 y2 y3 y4 y5 y6 y7) (iw.l0 (k+1) y0 y1 y2 y3 y4 y5 y6 y7))
 | 0=>fun _ _ _ _ _ _ _ _ r h=>by simp [iw.l0] at h
 | k+1=>by
  have ih0:=iw.iU k
  ·intro y0 y1 y2 y3 y4 y5 y6 y7
   unfold iw.l0
   repeat' (with_reducible first|exact ih0 _ _ _ _ _ _ _ _|exact kQ.mono _ _ _ _ _|exact nI.mono _ _ _ _ _ _|exact zM|refine LeO.ite ?_ ?_|refine LeO.bind ?_ (fun _ => ?_))
theorem iw.mono:∀ a0 a1 a2 a3 k,LeO (iw.f k a0 a1 a2 a3) (iw.f (k+1) a0 a1 a2 a3):=by
 intro a0 a1 a2 a3 k
 have ih0:=iw.iU k
 unfold iw.f
 repeat' (with_reducible first|exact ih0 _ _ _ _ _ _ _ _|exact kQ.mono _ _ _ _ _|exact nI.mono _ _ _ _ _ _|exact zM|refine LeO.ite ?_ ?_|refine LeO.bind ?_ (fun _ => ?_))
set_option maxHeartbeats 8000000 in
set_option maxRecDepth 100000 in
theorem iw.calls (k:Nat) (a0 a1 a2 a3 r1:Int) (r2:List Int) (w:World) (hG:GL w) (h:iw.f k a0 a1 a2 a3=some (r1,r2)) :
  Calls Tryz.prog 107 #[.int .i64 a0,.int .i64 a1,.int .i64 a2,.int .i64 a3] w fun e w'=>∃ v1_:Value,e = .returned (.tuple #[.int .i64 r1,v1_])∧Kd.R (Kd.int .i64) 2 w' w.heap.size (fun _=>True) v1_ r2∧Below w.heap.size w w':=by
 have HB:=aj.mk (Below.refl w.heap.size w)
 have H:=h
 clear h
 unfold iw.f at H
 replace H:=zO H
 obtain ⟨⟨akH,anc⟩,A5,H⟩:=H
 try dsimp only at H
 have H':=aj.mk H
 clear H
 go_enter Tryz.func107,Tryz.ntmps107
 go_wp2_with (first|((with_reducible refine aA (f:=128) rfl ?_);refine aH (some 17) rfl rfl Tryz.func128 (by kernel_rfl) rfl #[.int .i64 a0,.int .i64 a1,.int .i64 a2,.int .i64 a3] rfl zL ?_;(with_reducible refine (kQ.calls k a0 a1 a2 a3 akH anc _ (by exact GL.below hG (by repeat (first|(with_reducible first|exact HB.out|apply aT|apply aI|apply bg)|exact HB.out|exact Below.refl _ _))) A5.out).mono ?_);rintro e w6 ⟨rfl,hb⟩;refine ⟨_,rfl,?_⟩;replace HB:=aj.mk (ak zB hb);(try clear hb)))
 go_loopg [9,21] k (fun kq v9 v21 w'=>∃ (sG:List Int) (vU:Int),v21 = .int .i64 vU∧aj (iw.l0 kq a0 a1 a2 a3 akH sG anc vU=some (r1,r2))∧aj (kq≤k)∧aj (Kd.R (Kd.int .i64) 2 w' w.heap.size (fun _=>True) v9 sG)∧aj (Below w.heap.size w w'))
 case atStart=>exact ⟨(([]:List Int)),(0),zT,H',⟨Nat.le_refl _⟩,⟨by first|exact Kd.kF _ _ _ _ _|exact Kd.oQ _ _ _ _ _|exact Kd.nN _ _ _ _ _|exact Kd.oU _ _ _ _ _|exact Kd.oK _ _ _ _ _⟩,⟨zB⟩⟩
 case round =>
  clear H'
  obtain ⟨sG,vU,rfl,HA,HK1,ane,HB⟩:=hrel
  cases gk with
  | zero=>exact absurd HA.out (by simp [iw.l0])
  | succ k1 =>
   have H:=HA.out
   clear HA
   simp only [iw.l0] at H
   by_cases c7:vU < anc
   ·rw [if_pos c7] at H
    have jw:=decide_eq_true c7
    clear c7
    replace H:=zO H
    obtain ⟨t167,A8,H⟩:=H
    try dsimp only at H
    by_cases c9:sG.length < 17592186044416
    ·rw [if_pos c9] at H
     have awt:=aj.mk c9
     clear c9
     obtain ⟨y168,hy168⟩:∃ y_:List Int,y_=(sG ++ [t167]):=⟨_,rfl⟩
     replace H:(iw.l0 k1 a0 a1 a2 a3 akH y168 anc (wrap64 (vU+1)))=some (r1,r2):=by first|(rw [hy168];with_reducible exact H)|(have H2_:=(Option.bind_some _ _).symm.trans H;rw [hy168];with_reducible exact H2_)|(have H2_:=(Option.bind_some _ _).symm.trans H;with_reducible exact H2_)|with_reducible exact H|(rw [hy168];exact H)|exact H
     have ava:=aj.mk hy168
     clear hy168
     have H':=aj.mk H
     clear H
     go_wp2_with (first|((with_reducible refine aA (f:=129) rfl ?_);refine aH (some 32) rfl rfl Tryz.func129 (by kernel_rfl) rfl #[.int .i64 a0,.int .i64 a1,.int .i64 a2,.int .i64 a3,.int .i64 (wrap64 (akH+vU))] rfl zL ?_;(with_reducible refine (nI.calls k1 a0 a1 a2 a3 (wrap64 (akH+vU)) t167 _ A8.out).mono ?_);rintro e w10 ⟨rfl,hb⟩;refine ⟨_,rfl,?_⟩;obtain ⟨ane,HB⟩:=zA2 (Kd.jQ (by (with_reducible repeat (first|apply Kd.aK|apply Kd.aQ|apply Kd.aW));exact ane.out) hb) (ak zB hb);(try clear hb))|((with_reducible refine jG (b := .append) (xs := #[.tmp 24,.tmp 33]) rfl ?_);at_builtin;refine Kd.kZ (Kd.int .i64) (w0:=w) w.heap.size rfl (.tmp 24) (.tmp 33) 44 2 (.int .i64 0) 8 rfl Tryz.underlying44 vM rfl (by decide) (by omega) u9 sG t167 [.int .i64 t167] (fun _=>True) (fun _=>False) rfl rfl ?aP (fun _ hk=>hk.elim) ?aF ?aO ?aB ?aS ?aL ?_;(case aP=>exact rfl);(case aB=>exact zB);(case aF=>exact (fun _ _=>trivial));(case aO=>exact (by (with_reducible repeat (first|apply Kd.aK|apply Kd.aQ|apply Kd.aW));exact ane.out));(case aS=>exact (bF zB));(case aL=>have:=awt.out;omega);intro aBq w11 ho hb hg hat;rw [← ava.out] at ho;obtain ⟨HB,avb⟩:=zA2 hb ho;clear ho hb hg hat))
     go_roundg k1
     case measure=>have:=HK1.out;omega
     case rel=>exact ⟨(y168),(wrap64 (vU+1)),zT,H',⟨by have:=HK1.out;omega⟩,⟨by (with_reducible repeat (first|apply Kd.aK|apply Kd.aQ|apply Kd.aW));exact avb.out⟩,⟨zB⟩⟩
    ·rw [if_neg c9] at H
     exact absurd H (by simp)
   ·rw [if_neg c7] at H
    have jw:=decide_eq_false c7
    clear c7
    simp only [Option.some.injEq,Prod.mk.injEq] at H
    obtain ⟨rfl,rfl⟩:=H
    go_wp2
    go_ret2
    exact ⟨_,zS,by (with_reducible repeat (first|apply Kd.aK|apply Kd.aQ|apply Kd.aW));exact ane.out,zB⟩
end Go.Proofs.YtpondkggmcmpfaaGreatDoor.QA
namespace Go.Proofs.YtpondkggmcmpfaaGreatDoor.QA
open Go.Proofs.YtpondkggmcmpfaaGreatDoor.T
open Go.RowKit Go.Proofs.YtpondkggmcmpfaaGreatDoorW.PrintWords Go.Proofs.YtpondkggmcmpfaaGreatDoorW.PrintLast Go.Proofs.YtpondkggmcmpfaaGreatDoorW.PrintMore
attribute [local go_sem] dY dS dU fA fB
set_option linter.unusedVariables false
set_option linter.unusedSimpArgs false
def lJ.f (a0:Int):Option (Bool):=if a0≥1 then (some (decide (a0≤65536))) else (some false)
set_option maxHeartbeats 8000000 in
set_option maxRecDepth 100000 in
theorem lJ.calls (a0:Int) (r:Bool) (w:World) (h:lJ.f a0=some r) :
  Calls Tryz.prog 111 #[.int .i64 a0] w fun e w'=>e = .returned (.bool r)∧dw w w':=by
 have H:=h
 clear h
 unfold lJ.f at H
 by_cases c2:a0≥1
 ·rw [if_pos c2] at H
  have lW:=decide_eq_true c2
  clear c2
  obtain rfl:=Option.some.inj H
  go_enter Tryz.func111,Tryz.ntmps111
  go_wp2
  go_ret
  exact ⟨zT,zW⟩
 ·rw [if_neg c2] at H
  have lW:=decide_eq_false c2
  clear c2
  obtain rfl:=Option.some.inj H
  go_enter Tryz.func111,Tryz.ntmps111
  go_wp2
  go_ret
  exact ⟨zT,zW⟩
def kC.l0:Nat→Int→List Int→Int→Int→Option (Int)
 | 0,_,_,_,_=>none
 | k+1,x3,x6,x7,x8=>if x8 < x7 then (if 0≤x8 then (if x8 < (x6.length:Int) then ((ug.f k (rd x6 x8)).bind fun akI=>((kN.f k x3 akI).bind fun t182=>(kC.l0 k t182 x6 x7 (wrap64 (x8+1))))) else (none)) else (none)) else (some x3)
def kC.f (k:Nat) (l0:List Int):Option (Int):=kC.l0 k 0 l0 (l0.length:Int) 0
set_option maxHeartbeats 8000000 in
set_option maxRecDepth 100000 in
theorem kC.calls (k:Nat) (A0:Option Addr) (c0:Nat) (l0:List Int) (r:Int) (w:World) (hr0:Kd.C (Kd.int .i64) w A0 l0.length l0) (hc0:l0.length≤c0) (h:kC.f k l0=some r) :
  Calls Tryz.prog 138 #[.slice A0 l0.length c0] w fun e w'=>e = .returned (.int .i64 r)∧Below w.heap.size w w':=by
 have HR0:=aj.mk hr0
 have HC0:=aj.mk hc0
 clear hr0 hc0
 have HB:=aj.mk (Below.refl w.heap.size w)
 have H:=h
 clear h
 unfold kC.f at H
 have H':=aj.mk H
 clear H
 go_enter Tryz.func138,Tryz.ntmps138
 go_wp2
 go_loopg [3,8] k (fun kq v3 v8 w'=>∃ (qH:Int) (gZ:Int),v3 = .int .i64 qH∧v8 = .int .i64 gZ∧aj (kC.l0 kq qH l0 (l0.length:Int) gZ=some r)∧aj (kq≤k)∧aj (Below w.heap.size w w'))
 case atStart=>exact ⟨(0),(0),zT,zT,H',⟨Nat.le_refl _⟩,⟨zB⟩⟩
 case round =>
  clear H'
  obtain ⟨qH,gZ,rfl,rfl,HA,HK1,HB⟩:=hrel
  cases gk with
  | zero=>exact absurd HA.out (by simp [kC.l0])
  | succ k1 =>
   have H:=HA.out
   clear HA
   simp only [kC.l0] at H
   by_cases c2:gZ < (l0.length:Int)
   ·rw [if_pos c2] at H
    have lW:=decide_eq_true c2
    clear c2
    by_cases c3:0≤gZ
    ·rw [if_pos c3] at H
     have fQ:=decide_eq_true c3
     clear c3
     by_cases c4:gZ < (l0.length:Int)
     ·rw [if_pos c4] at H
      have fV:=decide_eq_true c4
      clear c4
      replace H:=zO H
      obtain ⟨akI,A5,H⟩:=H
      try dsimp only at H
      replace H:=zO H
      obtain ⟨t182,A6,H⟩:=H
      try dsimp only at H
      have H':=aj.mk H
      clear H
      have aqb:0≤(gZ:Int):=of_decide_eq_true (by first|(with_reducible assumption)|assumption)
      have aqc:gZ < (l0.length:Int):=of_decide_eq_true (by first|(with_reducible assumption)|assumption)
      obtain ⟨aAC,awu,ah1⟩:=Kd.jF HR0.out gZ aqb aqc
      cases awu
      replace ah1:=(HB.out.cell (World.block_lt_of_cell? w _ ah1)).trans ah1
      replace aqb:=eq_true aqb
      replace aqc:=eq_true aqc
      go_wp2_with (first|((with_reducible refine aA (f:=161) rfl ?_);refine aH (some 14) rfl rfl Tryz.func161 (by kernel_rfl) rfl #[.int .i64 (rd l0 gZ)] rfl zL ?_;(with_reducible refine (ug.calls k1 (rd l0 gZ) akI _ A5.out).mono ?_);rintro e w7 ⟨rfl,hb⟩;refine ⟨_,rfl,?_⟩;replace HB:=aj.mk (ak zB hb);(try clear hb))|((with_reducible refine aA (f:=162) rfl ?_);refine aH (some 15) rfl rfl Tryz.func162 (by kernel_rfl) rfl #[.int .i64 qH,.int .i64 akI] rfl zL ?_;(with_reducible refine (kN.calls k1 qH akI t182 _ A6.out).mono ?_);rintro e w' ⟨rfl,⟨nd,rfl⟩⟩;refine ⟨_,rfl,?_⟩))
      go_roundg k1
      case measure=>have:=HK1.out;omega
      case rel=>exact ⟨(t182),(wrap64 (gZ+1)),zT,zT,H',⟨by have:=HK1.out;omega⟩,⟨zB⟩⟩
     ·rw [if_neg c4] at H
      exact absurd H (by simp)
    ·rw [if_neg c3] at H
     exact absurd H (by simp)
   ·rw [if_neg c2] at H
    have lW:=decide_eq_false c2
    clear c2
    obtain rfl:=Option.some.inj H
    go_wp2
    go_ret
    exact ⟨zS,zB⟩
def iD.l0:Nat→Int→Int→Int→Int→Int→Option (Int)
 | 0,_,_,_,_,_=>none
 | k+1,x3,x4,x5,x6,x14=>if x14 < 16 then ((aZ.f k x6 x4 (wrap64 ((wrap64 (x14+1))*1099511627776))).bind fun t183=>(if (Int.tmod x14 2)=0 then (iD.l0 k x3 x4 (wrap64 (x5 - t183)) t183 (wrap64 (x14+1))) else (iD.l0 k x3 x4 (wrap64 (x5+t183)) t183 (wrap64 (x14+1))))) else ((mO.f x5 x3).bind fun aqd=>(some aqd))
def iD.f (k:Nat) (a0:Int):Option (Int):=iD.l0 k (wrap64 ((mx 0 a0) / 762123384786)) ((mx 0 a0) % 762123384786) 1099511627776 1099511627776 0
theorem iD.iU:∀ k,(∀ y0 y1 y2 y3 y4,LeO (iD.l0 k y0 y1 y2 y3 y4) (iD.l0 (k+1) y0 y1 y2 y3 y4))
 | 0=>fun _ _ _ _ _ r h=>by simp [iD.l0] at h
 | k+1=>by
  have ih0:=iD.iU k
  ·intro y0 y1 y2 y3 y4
   unfold iD.l0
   repeat' (with_reducible first|exact ih0 _ _ _ _ _|exact aZ.mono _ _ _ _|exact zM|refine LeO.ite ?_ ?_|refine LeO.bind ?_ (fun _ => ?_))
theorem iD.mono:∀ a0 k,LeO (iD.f k a0) (iD.f (k+1) a0):=by
 intro a0 k
 have ih0:=iD.iU k
 unfold iD.f
 repeat' (with_reducible first|exact ih0 _ _ _ _ _|exact aZ.mono _ _ _ _|exact zM|refine LeO.ite ?_ ?_|refine LeO.bind ?_ (fun _ => ?_))
set_option maxHeartbeats 8000000 in
set_option maxRecDepth 100000 in
theorem iD.calls (k:Nat) (a0 r:Int) (w:World) (h:iD.f k a0=some r) :
  Calls Tryz.prog 167 #[.int .i64 a0] w fun e w'=>e = .returned (.int .i64 r)∧Below w.heap.size w w':=by
 have HB:=aj.mk (Below.refl w.heap.size w)
 have H:=h
 clear h
 unfold iD.f at H
 obtain ⟨ji2,zZ⟩:∃ j_:Int,(mx 0 a0)=j_:=⟨_,rfl⟩
 replace H:(iD.l0 k (wrap64 ((ji2) / 762123384786)) ((ji2) % 762123384786) 1099511627776 1099511627776 0)=some r:=by first|(rw [zZ] at H;exact H)|(simp only [zZ] at H ⊢;exact H)
 (try (have anf:0≤ji2:=by (rw [← zZ];unfold mx;(repeat' split) <;> omega)))
 (try (have aAD:0≤ji2:=by omega))
 have au6:(if 0 < a0 then a0 else 0)=ji2:=zZ
 have H':=aj.mk H
 clear H
 go_enter Tryz.func167,Tryz.ntmps167
 go_wp2
 go_loopg [5,6,14] k (fun kq v5 v6 v14 w'=>∃ (afZ:Int) (pJ:Int) (uN:Int),v5 = .int .i64 afZ∧v6 = .int .i64 pJ∧v14 = .int .i64 uN∧aj (iD.l0 kq (wrap64 ((ji2) / 762123384786)) ((ji2) % 762123384786) afZ pJ uN=some r)∧aj (kq≤k)∧aj (Below w.heap.size w w'))
 case atStart=>exact ⟨(1099511627776),(1099511627776),(0),zT,zT,zT,H',⟨Nat.le_refl _⟩,⟨zB⟩⟩
 case round =>
  clear H'
  obtain ⟨afZ,pJ,uN,rfl,rfl,rfl,HA,HK1,HB⟩:=hrel
  cases gk with
  | zero=>exact absurd HA.out (by simp [iD.l0])
  | succ k1 =>
   have H:=HA.out
   clear HA
   simp only [iD.l0] at H
   by_cases c3:uN < 16
   ·rw [if_pos c3] at H
    have fQ:=decide_eq_true c3
    clear c3
    replace H:=zO H
    obtain ⟨t183,A4,H⟩:=H
    try dsimp only at H
    by_cases c5:(Int.tmod uN 2)=0
    ·rw [if_pos c5] at H
     have iM:((Int.tmod uN 2) == 0)=true:=beq_iff_eq.mpr c5
     have abA:((Int.tmod uN 2) != 0)=false:=bne_eq_false_iff_eq.mpr c5
     clear c5
     have H':=aj.mk H
     clear H
     go_wp2_with (first|((with_reducible refine aA (f:=130) rfl ?_);refine aH (some 22) rfl rfl Tryz.func130 (by kernel_rfl) rfl #[.int .i64 pJ,.int .i64 ((ji2) % 762123384786),.int .i64 (wrap64 ((wrap64 (uN+1))*1099511627776))] rfl (by (try simp only [List.map_toArray,List.map_cons,List.map_nil]);first|done|(simp only [zZ];rfl)|(simp only [Int.tdiv_eq_ediv_of_nonneg anf];rfl)|rfl|(simp only [List.length_drop,List.length_take];rfl)) ?_;(with_reducible refine (aZ.calls k1 pJ ((ji2) % 762123384786) (wrap64 ((wrap64 (uN+1))*1099511627776)) t183 _ A4.out).mono ?_);rintro e w' ⟨rfl,⟨nd,rfl⟩⟩;refine ⟨_,rfl,?_⟩))
     go_roundg k1
     case measure=>have:=HK1.out;omega
     case rel=>exact ⟨(wrap64 (afZ - t183)),(t183),(wrap64 (uN+1)),zT,zT,zT,H',⟨by have:=HK1.out;omega⟩,⟨zB⟩⟩
    ·rw [if_neg c5] at H
     have iM:((Int.tmod uN 2) == 0)=false:=beq_eq_false_iff_ne.mpr c5
     have abA:((Int.tmod uN 2) != 0)=true:=bne_iff_ne.mpr c5
     have H':=aj.mk H
     clear H
     go_wp2_with (first|((with_reducible refine aA (f:=130) rfl ?_);refine aH (some 22) rfl rfl Tryz.func130 (by kernel_rfl) rfl #[.int .i64 pJ,.int .i64 ((ji2) % 762123384786),.int .i64 (wrap64 ((wrap64 (uN+1))*1099511627776))] rfl (by (try simp only [List.map_toArray,List.map_cons,List.map_nil]);first|done|(simp only [zZ];rfl)|(simp only [Int.tdiv_eq_ediv_of_nonneg anf];rfl)|rfl|(simp only [List.length_drop,List.length_take];rfl)) ?_;(with_reducible refine (aZ.calls k1 pJ ((ji2) % 762123384786) (wrap64 ((wrap64 (uN+1))*1099511627776)) t183 _ A4.out).mono ?_);rintro e w' ⟨rfl,⟨nd,rfl⟩⟩;refine ⟨_,rfl,?_⟩))
     go_roundg k1
     case measure=>have:=HK1.out;omega
     case rel=>exact ⟨(wrap64 (afZ+t183)),(t183),(wrap64 (uN+1)),zT,zT,zT,H',⟨by have:=HK1.out;omega⟩,⟨zB⟩⟩
   ·rw [if_neg c3] at H
    have fQ:=decide_eq_false c3
    clear c3
    replace H:=zO H
    obtain ⟨aqd,A6,H⟩:=H
    try dsimp only at H
    obtain rfl:=Option.some.inj H
    go_wp2_with (first|((with_reducible refine aA (f:=100) rfl ?_);refine aH (some 35) rfl rfl Tryz.func100 (by kernel_rfl) rfl #[.int .i64 afZ,.int .i64 (wrap64 ((ji2) / 762123384786))] rfl (by (try simp only [List.map_toArray,List.map_cons,List.map_nil]);first|done|(simp only [zZ];rfl)|(simp only [Int.tdiv_eq_ediv_of_nonneg anf];rfl)|rfl|(simp only [List.length_drop,List.length_take];rfl)) ?_;(with_reducible refine (mO.calls afZ (wrap64 ((ji2) / 762123384786)) aqd _ A6.out).mono ?_);rintro e w' ⟨rfl,⟨nd,rfl⟩⟩;refine ⟨_,rfl,?_⟩))
    go_ret
    exact ⟨by first|rfl|(simp [bG,bH] <;> rfl)|(simp only [← zZ];first|rfl|(simp [bG,bH] <;> rfl))|(simp [*,bG,bH] <;> rfl),zB⟩
def mQ.f (k:Nat) (a0 a1:Int):Option (Int):=if a1 < 1 then (some 9223372036854775807) else (if a1 > 4194304 then (some 9223372036854775807) else (if a0 < (-16384) then (some 9223372036854775807) else (if a0 > 16384 then (some 9223372036854775807) else ((aZ.f k (wrap64 ((wrap64 (a0*a0))*2147483648)) 1099511627776 (wrap64 (a1*a1))).bind fun aqe=>(some aqe)))))
theorem mQ.mono:∀ a0 a1 k,LeO (mQ.f k a0 a1) (mQ.f (k+1) a0 a1):=by
 intro a0 a1 k
 unfold mQ.f
 repeat' (with_reducible first|exact aZ.mono _ _ _ _|exact zM|refine LeO.ite ?_ ?_|refine LeO.bind ?_ (fun _ => ?_))
set_option maxHeartbeats 8000000 in
set_option maxRecDepth 100000 in
theorem mQ.calls (k:Nat) (a0 a1 r:Int) (w:World) (h:mQ.f k a0 a1=some r) :
  Calls Tryz.prog 168 #[.int .i64 a0,.int .i64 a1] w fun e w'=>e = .returned (.int .i64 r)∧dw w w':=by
 have H:=h
 clear h
 unfold mQ.f at H
 by_cases c3:a1 < 1
 ·rw [if_pos c3] at H
  have fQ:=decide_eq_true c3
  clear c3
  obtain rfl:=Option.some.inj H
  go_enter Tryz.func168,Tryz.ntmps168
  go_wp2
  go_ret
  exact ⟨zT,zW⟩
 ·rw [if_neg c3] at H
  have fQ:=decide_eq_false c3
  clear c3
  by_cases c4:a1 > 4194304
  ·rw [if_pos c4] at H
   have fV:=decide_eq_true c4
   clear c4
   obtain rfl:=Option.some.inj H
   go_enter Tryz.func168,Tryz.ntmps168
   go_wp2
   go_ret
   exact ⟨zT,zW⟩
  ·rw [if_neg c4] at H
   have fV:=decide_eq_false c4
   clear c4
   by_cases c5:a0 < (-16384)
   ·rw [if_pos c5] at H
    have iM:=decide_eq_true c5
    clear c5
    obtain rfl:=Option.some.inj H
    go_enter Tryz.func168,Tryz.ntmps168
    go_wp2
    go_ret
    exact ⟨zT,zW⟩
   ·rw [if_neg c5] at H
    have iM:=decide_eq_false c5
    clear c5
    by_cases c6:a0 > 16384
    ·rw [if_pos c6] at H
     have iy:=decide_eq_true c6
     clear c6
     obtain rfl:=Option.some.inj H
     go_enter Tryz.func168,Tryz.ntmps168
     go_wp2
     go_ret
     exact ⟨zT,zW⟩
    ·rw [if_neg c6] at H
     have iy:=decide_eq_false c6
     clear c6
     replace H:=zO H
     obtain ⟨aqe,A7,H⟩:=H
     try dsimp only at H
     obtain rfl:=Option.some.inj H
     go_enter Tryz.func168,Tryz.ntmps168
     go_wp2_with (first|((with_reducible refine aA (f:=130) rfl ?_);refine aH (some 26) rfl rfl Tryz.func130 (by kernel_rfl) rfl #[.int .i64 (wrap64 ((wrap64 (a0*a0))*2147483648)),.int .i64 1099511627776,.int .i64 (wrap64 (a1*a1))] rfl zL ?_;(with_reducible refine (aZ.calls k (wrap64 ((wrap64 (a0*a0))*2147483648)) 1099511627776 (wrap64 (a1*a1)) aqe _ A7.out).mono ?_);rintro e w' ⟨rfl,⟨nd,rfl⟩⟩;refine ⟨_,rfl,?_⟩))
     go_ret
     exact ⟨zT,zW⟩
def kR.f (k:Nat) (a0 a1:Int):Option (Int):=(mQ.f k a0 a1).bind fun akJ=>((iD.f k akJ).bind fun akK=>((mO.f akK 10).bind fun aqf=>(some aqf)))
theorem kR.mono:∀ a0 a1 k,LeO (kR.f k a0 a1) (kR.f (k+1) a0 a1):=by
 intro a0 a1 k
 unfold kR.f
 repeat' (with_reducible first|exact iD.mono _ _|exact mQ.mono _ _ _|exact zM|refine LeO.ite ?_ ?_|refine LeO.bind ?_ (fun _ => ?_))
set_option maxHeartbeats 8000000 in
set_option maxRecDepth 100000 in
theorem kR.calls (k:Nat) (a0 a1 r:Int) (w:World) (h:kR.f k a0 a1=some r) :
  Calls Tryz.prog 137 #[.int .i64 a0,.int .i64 a1] w fun e w'=>e = .returned (.int .i64 r)∧Below w.heap.size w w':=by
 have HB:=aj.mk (Below.refl w.heap.size w)
 have H:=h
 clear h
 unfold kR.f at H
 replace H:=zO H
 obtain ⟨akJ,A3,H⟩:=H
 try dsimp only at H
 replace H:=zO H
 obtain ⟨akK,A4,H⟩:=H
 try dsimp only at H
 replace H:=zO H
 obtain ⟨aqf,A5,H⟩:=H
 try dsimp only at H
 obtain rfl:=Option.some.inj H
 go_enter Tryz.func137,Tryz.ntmps137
 go_wp2_with (first|((with_reducible refine aA (f:=168) rfl ?_);refine aH (some 7) rfl rfl Tryz.func168 (by kernel_rfl) rfl #[.int .i64 a0,.int .i64 a1] rfl zL ?_;(with_reducible refine (mQ.calls k a0 a1 akJ _ A3.out).mono ?_);rintro e w' ⟨rfl,⟨nd,rfl⟩⟩;refine ⟨_,rfl,?_⟩)|((with_reducible refine aA (f:=167) rfl ?_);refine aH (some 8) rfl rfl Tryz.func167 (by kernel_rfl) rfl #[.int .i64 akJ] rfl zL ?_;(with_reducible refine (iD.calls k akJ akK _ A4.out).mono ?_);rintro e w6 ⟨rfl,hb⟩;refine ⟨_,rfl,?_⟩;replace HB:=aj.mk (ak zB hb);(try clear hb))|((with_reducible refine aA (f:=100) rfl ?_);refine aH (some 9) rfl rfl Tryz.func100 (by kernel_rfl) rfl #[.int .i64 akK,.int .i64 10] rfl zL ?_;(with_reducible refine (mO.calls akK 10 aqf _ A5.out).mono ?_);rintro e w' ⟨rfl,⟨nd,rfl⟩⟩;refine ⟨_,rfl,?_⟩))
 go_ret
 exact ⟨zS,zB⟩
end Go.Proofs.YtpondkggmcmpfaaGreatDoor.QA
namespace Go.Proofs.YtpondkggmcmpfaaGreatDoor.QA
open Go.Proofs.YtpondkggmcmpfaaGreatDoor.T
open Go.RowKit Go.Proofs.YtpondkggmcmpfaaGreatDoorW.PrintWords Go.Proofs.YtpondkggmcmpfaaGreatDoorW.PrintLast Go.Proofs.YtpondkggmcmpfaaGreatDoorW.PrintMore
attribute [local go_sem] dY dS dU fA fB
set_option linter.unusedVariables false
set_option linter.unusedSimpArgs false
mutual
def bn.j0:Nat→Int→Bool→Option (List Int × Int)
 | 0,_,_=>none
 | k+1,x0,x12=>if x12=true then (some (([]:List Int),7)) else (bn.l0 k x0 ((wrap64 ((wrap64 ((wrap64 (3*x0))+65536)) - 1)) / 65536) ([]:List Int) (wrap64 (-((wrap64 ((wrap64 ((wrap64 (3*x0))+65536)) - 1)) / 65536))))
def bn.l0:Nat→Int→Int→List Int→Int→Option (List Int × Int)
 | 0,_,_,_,_=>none
 | k+1,x0,x4,x5,x6=>if x6≤x4 then ((kR.f k x6 x0).bind fun ah2=>(if x5.length < 17592186044416 then (bn.l0 k x0 x4 (x5 ++ [ah2]) (wrap64 (x6+1))) else (none))) else (some (x5,0))
end
def bn.f (k:Nat) (a0:Int):Option (List Int × Int):=if a0 < 1 then (bn.j0 k a0 true) else (bn.j0 k a0 (decide (a0 > 4194304)))
theorem bn.iU:∀ k,(∀ y0 y1,LeO (bn.j0 k y0 y1) (bn.j0 (k+1) y0 y1))∧(∀ y0 y1 y2 y3,LeO (bn.l0 k y0 y1 y2 y3) (bn.l0 (k+1) y0 y1 y2 y3))
 | 0=>⟨fun _ _ r h=>by simp [bn.j0] at h,fun _ _ _ _ r h=>by simp [bn.l0] at h⟩
 | k+1=>by
  obtain ⟨ih0,ih1⟩:=bn.iU k
  refine ⟨?_,?_⟩
  ·intro y0 y1
   unfold bn.j0
   repeat' (with_reducible first|exact ih0 _ _|exact ih1 _ _ _ _|exact kR.mono _ _ _|exact zM|refine LeO.ite ?_ ?_|refine LeO.bind ?_ (fun _ => ?_))
  ·intro y0 y1 y2 y3
   unfold bn.l0
   repeat' (with_reducible first|exact ih0 _ _|exact ih1 _ _ _ _|exact kR.mono _ _ _|exact zM|refine LeO.ite ?_ ?_|refine LeO.bind ?_ (fun _ => ?_))
theorem bn.mono:∀ a0 k,LeO (bn.f k a0) (bn.f (k+1) a0):=by
 intro a0 k
 obtain ⟨ih0,ih1⟩:=bn.iU k
 unfold bn.f
 repeat' (with_reducible first|exact ih0 _ _|exact ih1 _ _ _ _|exact kR.mono _ _ _|exact zM|refine LeO.ite ?_ ?_|refine LeO.bind ?_ (fun _ => ?_))
set_option maxHeartbeats 8000000 in
set_option maxRecDepth 100000 in
theorem bn.calls (k:Nat) (a0:Int) (r1:List Int) (r2:Int) (w:World) (h:bn.f k a0=some (r1,r2)) :
  Calls Tryz.prog 110 #[.int .i64 a0] w fun e w'=>∃ v0_:Value,e = .returned (.tuple #[v0_,.int .i64 r2])∧Kd.R (Kd.int .i64) 2 w' w.heap.size (fun _=>True) v0_ r1∧Below w.heap.size w w':=by
 have HB:=aj.mk (Below.refl w.heap.size w)
 have H:=h
 clear h
 unfold bn.f at H
 have HC2:=aj.mk H
 clear H
 go_enter Tryz.func110,Tryz.ntmps110
 go_upto_region 1 with (fail)
 go_cut [12] (fun v12 wc=>∃ (kq:Nat) (aa6:Bool),v12 = .bool aa6∧aj (bn.j0 kq a0 aa6=some (r1,r2))∧aj (kq≤k)∧aj (Below w.heap.size w wc))
 case first =>
  have H:=HC2.out
  clear HC2
  by_cases c3:a0 < 1
  ·rw [if_pos c3] at H
   have fQ:=decide_eq_true c3
   clear c3
   (first|rw [fQ]|(simp only [bW,dA];rw [fQ])|skip)
   have H':=aj.mk H
   clear H
   go_wp2
   go_meet
   case rel=>exact ⟨_,(true),zT,H',⟨by first|omega|exact Nat.le_refl _⟩,⟨zB⟩⟩
  ·rw [if_neg c3] at H
   have fQ:=decide_eq_false c3
   clear c3
   (first|rw [fQ]|(simp only [bW,dA];rw [fQ])|skip)
   have H':=aj.mk H
   clear H
   go_wp2
   go_meet
   case rel=>exact ⟨_,(decide (a0 > 4194304)),zT,H',⟨by first|omega|exact Nat.le_refl _⟩,⟨zB⟩⟩
 case rest =>
  clear HC2
  obtain ⟨kq,aa6,rfl,HA,HJ1,HB⟩:=hcut
  cases kq with
  | zero=>exact absurd HA.out (by simp [bn.j0])
  | succ kj1 =>
   have H:=HA.out
   clear HA
   simp only [bn.j0] at H
   by_cases c4:aa6=true
   ·subst c4
    rw [if_pos rfl] at H;try dsimp only at H
    simp only [Option.some.injEq,Prod.mk.injEq] at H
    obtain ⟨rfl,rfl⟩:=H
    go_wp2
    go_ret2
    exact ⟨_,zS,by first|exact Kd.kF _ _ _ _ _|exact Kd.oQ _ _ _ _ _|exact Kd.nN _ _ _ _ _|exact Kd.oU _ _ _ _ _|exact Kd.oK _ _ _ _ _,zB⟩
   ·replace c4:=Bool.eq_false_iff.mpr c4
    subst c4
    rw [if_neg (show ¬ (false=true) by decide)] at H;try dsimp only at H
    have H':=aj.mk H
    clear H
    go_wp2
    go_loopg [5,6] kj1 (fun kq v5 v6 w'=>∃ (lX:List Int) (wW:Int),v6 = .int .i64 wW∧aj (bn.l0 kq a0 ((wrap64 ((wrap64 ((wrap64 (3*a0))+65536)) - 1)) / 65536) lX wW=some (r1,r2))∧aj (kq≤kj1)∧aj (Kd.R (Kd.int .i64) 2 w' w.heap.size (fun _=>True) v5 lX)∧aj (Below w.heap.size w w'))
    case atStart=>exact ⟨(([]:List Int)),(wrap64 (-((wrap64 ((wrap64 ((wrap64 (3*a0))+65536)) - 1)) / 65536))),zT,H',⟨Nat.le_refl _⟩,⟨by first|exact Kd.kF _ _ _ _ _|exact Kd.oQ _ _ _ _ _|exact Kd.nN _ _ _ _ _|exact Kd.oU _ _ _ _ _|exact Kd.oK _ _ _ _ _⟩,⟨zB⟩⟩
    case round =>
     clear H'
     obtain ⟨lX,wW,rfl,HA,HK2,wK,HB⟩:=hrel
     cases gk with
     | zero=>exact absurd HA.out (by simp [bn.l0])
     | succ k2 =>
      have H:=HA.out
      clear HA
      simp only [bn.l0] at H
      by_cases c5:wW≤((wrap64 ((wrap64 ((wrap64 (3*a0))+65536)) - 1)) / 65536)
      ·rw [if_pos c5] at H
       have iM:=decide_eq_true c5
       clear c5
       replace H:=zO H
       obtain ⟨ah2,A6,H⟩:=H
       try dsimp only at H
       by_cases c7:lX.length < 17592186044416
       ·rw [if_pos c7] at H
        have awv:=aj.mk c7
        clear c7
        obtain ⟨ati,ag3⟩:∃ y_:List Int,y_=(lX ++ [ah2]):=⟨_,rfl⟩
        replace H:(bn.l0 k2 a0 ((wrap64 ((wrap64 ((wrap64 (3*a0))+65536)) - 1)) / 65536) ati (wrap64 (wW+1)))=some (r1,r2):=by first|(rw [ag3];with_reducible exact H)|(have H2_:=(Option.bind_some _ _).symm.trans H;rw [ag3];with_reducible exact H2_)|(have H2_:=(Option.bind_some _ _).symm.trans H;with_reducible exact H2_)|with_reducible exact H|(rw [ag3];exact H)|exact H
        have avc:=aj.mk ag3
        clear ag3
        have H':=aj.mk H
        clear H
        go_wp2_with (first|((with_reducible refine aA (f:=137) rfl ?_);refine aH (some 28) rfl rfl Tryz.func137 (by kernel_rfl) rfl #[.int .i64 wW,.int .i64 a0] rfl zL ?_;(with_reducible refine (kR.calls k2 wW a0 ah2 _ A6.out).mono ?_);rintro e w8 ⟨rfl,hb⟩;refine ⟨_,rfl,?_⟩;obtain ⟨wK,HB⟩:=zA2 (Kd.jQ (by (with_reducible repeat (first|apply Kd.aK|apply Kd.aQ|apply Kd.aW));exact wK.out) hb) (ak zB hb);(try clear hb))|((with_reducible refine jG (b := .append) (xs := #[.tmp 25,.tmp 29]) rfl ?_);at_builtin;refine Kd.kZ (Kd.int .i64) (w0:=w) w.heap.size rfl (.tmp 25) (.tmp 29) 44 2 (.int .i64 0) 8 rfl Tryz.underlying44 vM rfl (by decide) (by omega) u5 lX ah2 [.int .i64 ah2] (fun _=>True) (fun _=>False) rfl rfl ?aP (fun _ hk=>hk.elim) ?aF ?aO ?aB ?aS ?aL ?_;(case aP=>exact rfl);(case aB=>exact zB);(case aF=>exact (fun _ _=>trivial));(case aO=>exact (by (with_reducible repeat (first|apply Kd.aK|apply Kd.aQ|apply Kd.aW));exact wK.out));(case aS=>exact (bF zB));(case aL=>have:=awv.out;omega);intro aBr w9 ho hb hg hat;rw [← avc.out] at ho;obtain ⟨HB,avd⟩:=zA2 hb ho;clear ho hb hg hat))
        go_roundg k2
        case measure=>have:=HJ1.out;have:=HK2.out;omega
        case rel=>exact ⟨(ati),(wrap64 (wW+1)),zT,H',⟨by have:=HJ1.out;have:=HK2.out;omega⟩,⟨by (with_reducible repeat (first|apply Kd.aK|apply Kd.aQ|apply Kd.aW));exact avd.out⟩,⟨zB⟩⟩
       ·rw [if_neg c7] at H
        exact absurd H (by simp)
      ·rw [if_neg c5] at H
       have iM:=decide_eq_false c5
       clear c5
       simp only [Option.some.injEq,Prod.mk.injEq] at H
       obtain ⟨rfl,rfl⟩:=H
       go_wp2
       go_ret2
       exact ⟨_,zS,by (with_reducible repeat (first|apply Kd.aK|apply Kd.aQ|apply Kd.aW));exact wK.out,zB⟩
end Go.Proofs.YtpondkggmcmpfaaGreatDoor.QA
namespace Go.Proofs.YtpondkggmcmpfaaGreatDoor.QA
open Go.Proofs.YtpondkggmcmpfaaGreatDoor.T
open Go.RowKit Go.Proofs.YtpondkggmcmpfaaGreatDoorW.PrintWords Go.Proofs.YtpondkggmcmpfaaGreatDoorW.PrintLast Go.Proofs.YtpondkggmcmpfaaGreatDoorW.PrintMore
attribute [local go_sem] dY dS dU fA fB
set_option linter.unusedVariables false
set_option linter.unusedSimpArgs false
mutual
def fM.j0:Nat→List Int→Int→Bool→Option (List Int × Int)
 | 0,_,_,_=>none
 | k+1,x0,x4,x26=>if x26=true then (some (([]:List Int),7)) else (fM.l0 k x4 ([]:List Int) x0 (x0.length:Int) 0)
def fM.l0:Nat→Int→List Int→List Int→Int→Int→Option (List Int × Int)
 | 0,_,_,_,_,_=>none
 | k+1,x4,x5,x27,x28,x29=>if x29 < x28 then (if 0≤x29 then (if x29 < (x27.length:Int) then ((aZ.f k (rd x27 x29) 1073741824 x4).bind fun ah3=>(if x5.length < 17592186044416 then (fM.l0 k x4 (x5 ++ [ah3]) x27 x28 (wrap64 (x29+1))) else (none))) else (none)) else (none)) else (some (x5,0))
end
def fM.f (k:Nat) (l0:List Int):Option (List Int × Int):=(kC.f k l0).bind fun t193=>(if ((l0.length:Int) % 2)=0 then (fM.j0 k l0 t193 true) else (if (l0.length:Int) > 1024 then (fM.j0 k l0 t193 true) else (if t193 < 1 then (fM.j0 k l0 t193 true) else (fM.j0 k l0 t193 (decide (t193 > 1048576))))))
set_option maxHeartbeats 8000000 in
set_option maxRecDepth 100000 in
theorem fM.calls (k:Nat) (A0:Option Addr) (c0:Nat) (l0 r1:List Int) (r2:Int) (w:World) (hr0:Kd.C (Kd.int .i64) w A0 l0.length l0) (hc0:l0.length≤c0) (h:fM.f k l0=some (r1,r2)) :
  Calls Tryz.prog 127 #[.slice A0 l0.length c0] w fun e w'=>∃ v0_:Value,e = .returned (.tuple #[v0_,.int .i64 r2])∧Kd.R (Kd.int .i64) 2 w' w.heap.size (fun _=>True) v0_ r1∧Below w.heap.size w w':=by
 have HR0:=aj.mk hr0
 have HC0:=aj.mk hc0
 clear hr0 hc0
 have HB:=aj.mk (Below.refl w.heap.size w)
 have H:=h
 clear h
 unfold fM.f at H
 replace H:=zO H
 obtain ⟨t193,A2,H⟩:=H
 try dsimp only at H
 have HC3:=aj.mk H
 clear H
 go_enter Tryz.func127,Tryz.ntmps127
 go_upto_region 2 with (first|((with_reducible refine aA (f:=138) rfl ?_);refine aH (some 9) rfl rfl Tryz.func138 (by kernel_rfl) rfl #[.slice A0 l0.length c0] rfl zL ?_;(with_reducible refine (kC.calls k _ _ l0 t193 _ ?iJ ?iK A2.out).mono ?_);(case iJ=>repeat (first|exact HR0.out|(with_reducible refine Kd.jg ?_ _)|(with_reducible refine Kd.jE ?_ _)|(with_reducible refine Kd.kJ ?_)));(case iK=>exact HC0.out);rintro e w4 ⟨rfl,hb⟩;refine ⟨_,rfl,?_⟩;replace HB:=aj.mk (ak zB hb);(try clear hb)))
 (try simp only [Act.put,List.setIfInBounds_toArray,List.set_cons_zero,List.set_cons_succ])
 go_cut [26] (fun v26 wc=>∃ (kq:Nat) (aa7:Bool),v26 = .bool aa7∧aj (fM.j0 kq l0 t193 aa7=some (r1,r2))∧aj (kq≤k)∧aj (Below w.heap.size w wc))
 case first =>
  have H:=HC3.out
  clear HC3
  by_cases c5:((l0.length:Int) % 2)=0
  ·rw [if_pos c5] at H
   have iM:(((l0.length:Int) % 2) == 0)=true:=beq_iff_eq.mpr c5
   have abA:(((l0.length:Int) % 2) != 0)=false:=bne_eq_false_iff_eq.mpr c5
   clear c5
   (first|rw [iM]|(simp only [bW,dA];rw [iM])|skip)
   have H':=aj.mk H
   clear H
   go_wp2
   go_meet
   case rel=>exact ⟨_,(true),zT,H',⟨by first|omega|exact Nat.le_refl _⟩,⟨zB⟩⟩
  ·rw [if_neg c5] at H
   have iM:(((l0.length:Int) % 2) == 0)=false:=beq_eq_false_iff_ne.mpr c5
   have abA:(((l0.length:Int) % 2) != 0)=true:=bne_iff_ne.mpr c5
   (first|rw [iM]|(simp only [bW,dA];rw [iM])|skip)
   by_cases c6:(l0.length:Int) > 1024
   ·rw [if_pos c6] at H
    have iy:=decide_eq_true c6
    have uD:decide (1024 < l0.length)=true:=decide_eq_true (by omega)
    clear c6
    have H':=aj.mk H
    clear H
    go_wp2
    go_meet
    case rel=>exact ⟨_,(true),zT,H',⟨by first|omega|exact Nat.le_refl _⟩,⟨zB⟩⟩
   ·rw [if_neg c6] at H
    have iy:=decide_eq_false c6
    have uD:decide (1024 < l0.length)=false:=decide_eq_false (by omega)
    clear c6
    by_cases c7:t193 < 1
    ·rw [if_pos c7] at H
     have jw:=decide_eq_true c7
     clear c7
     have H':=aj.mk H
     clear H
     go_wp2
     go_meet
     case rel=>exact ⟨_,(true),zT,H',⟨by first|omega|exact Nat.le_refl _⟩,⟨zB⟩⟩
    ·rw [if_neg c7] at H
     have jw:=decide_eq_false c7
     clear c7
     have H':=aj.mk H
     clear H
     go_wp2
     go_meet
     case rel=>exact ⟨_,(decide (t193 > 1048576)),zT,H',⟨by first|omega|exact Nat.le_refl _⟩,⟨zB⟩⟩
 case rest =>
  clear HC3
  obtain ⟨kq,aa7,rfl,HA,HJ2,HB⟩:=hcut
  cases kq with
  | zero=>exact absurd HA.out (by simp [fM.j0])
  | succ kj2 =>
   have H:=HA.out
   clear HA
   simp only [fM.j0] at H
   by_cases c8:aa7=true
   ·subst c8
    rw [if_pos rfl] at H;try dsimp only at H
    simp only [Option.some.injEq,Prod.mk.injEq] at H
    obtain ⟨rfl,rfl⟩:=H
    go_wp2
    go_ret2
    exact ⟨_,zS,by first|exact Kd.kF _ _ _ _ _|exact Kd.oQ _ _ _ _ _|exact Kd.nN _ _ _ _ _|exact Kd.oU _ _ _ _ _|exact Kd.oK _ _ _ _ _,zB⟩
   ·replace c8:=Bool.eq_false_iff.mpr c8
    subst c8
    rw [if_neg (show ¬ (false=true) by decide)] at H;try dsimp only at H
    have H':=aj.mk H
    clear H
    go_wp2
    go_loopg [5,29] kj2 (fun kq v5 v29 w'=>∃ (lX:List Int) (lQ:Int),v29 = .int .i64 lQ∧aj (fM.l0 kq t193 lX l0 (l0.length:Int) lQ=some (r1,r2))∧aj (kq≤kj2)∧aj (Kd.R (Kd.int .i64) 2 w' w.heap.size (fun _=>True) v5 lX)∧aj (Below w.heap.size w w'))
    case atStart=>exact ⟨(([]:List Int)),(0),zT,H',⟨Nat.le_refl _⟩,⟨by first|exact Kd.kF _ _ _ _ _|exact Kd.oQ _ _ _ _ _|exact Kd.nN _ _ _ _ _|exact Kd.oU _ _ _ _ _|exact Kd.oK _ _ _ _ _⟩,⟨zB⟩⟩
    case round =>
     clear H'
     obtain ⟨lX,lQ,rfl,HA,HK2,wK,HB⟩:=hrel
     cases gk with
     | zero=>exact absurd HA.out (by simp [fM.l0])
     | succ k2 =>
      have H:=HA.out
      clear HA
      simp only [fM.l0] at H
      by_cases c9:lQ < (l0.length:Int)
      ·rw [if_pos c9] at H
       have qO:=decide_eq_true c9
       clear c9
       by_cases c10:0≤lQ
       ·rw [if_pos c10] at H
        have qg:=decide_eq_true c10
        clear c10
        by_cases c11:lQ < (l0.length:Int)
        ·rw [if_pos c11] at H
         have iP:=decide_eq_true c11
         clear c11
         replace H:=zO H
         obtain ⟨ah3,A12,H⟩:=H
         try dsimp only at H
         by_cases c13:lX.length < 17592186044416
         ·rw [if_pos c13] at H
          have ave:=aj.mk c13
          clear c13
          obtain ⟨atj,ag4⟩:∃ y_:List Int,y_=(lX ++ [ah3]):=⟨_,rfl⟩
          replace H:(fM.l0 k2 t193 atj l0 (l0.length:Int) (wrap64 (lQ+1)))=some (r1,r2):=by first|(rw [ag4];with_reducible exact H)|(have H2_:=(Option.bind_some _ _).symm.trans H;rw [ag4];with_reducible exact H2_)|(have H2_:=(Option.bind_some _ _).symm.trans H;with_reducible exact H2_)|with_reducible exact H|(rw [ag4];exact H)|exact H
          have avf:=aj.mk ag4
          clear ag4
          have H':=aj.mk H
          clear H
          have aqg:0≤(lQ:Int):=of_decide_eq_true (by first|(with_reducible assumption)|assumption)
          have aqh:lQ < (l0.length:Int):=of_decide_eq_true (by first|(with_reducible assumption)|assumption)
          obtain ⟨aAE,aww,ah4⟩:=Kd.jF HR0.out lQ aqg aqh
          cases aww
          replace ah4:=(HB.out.cell (World.block_lt_of_cell? w _ ah4)).trans ah4
          replace aqg:=eq_true aqg
          replace aqh:=eq_true aqh
          go_wp2_with (first|((with_reducible refine aA (f:=130) rfl ?_);refine aH (some 36) rfl rfl Tryz.func130 (by kernel_rfl) rfl #[.int .i64 (rd l0 lQ),.int .i64 1073741824,.int .i64 t193] rfl zL ?_;(with_reducible refine (aZ.calls k2 (rd l0 lQ) 1073741824 t193 ah3 _ A12.out).mono ?_);rintro e w' ⟨rfl,⟨nd,rfl⟩⟩;refine ⟨_,rfl,?_⟩)|((with_reducible refine jG (b := .append) (xs := #[.tmp 33,.tmp 37]) rfl ?_);(try (refine kG (by rfl) ?_;dsimp only));at_builtin;refine Kd.kZ (Kd.int .i64) (w0:=w) w.heap.size rfl (.tmp 33) (.tmp 37) 44 2 (.int .i64 0) 8 rfl Tryz.underlying44 vM rfl (by decide) (by omega) u5 lX ah3 [.int .i64 ah3] (fun _=>True) (fun _=>False) rfl rfl ?aP (fun _ hk=>hk.elim) ?aF ?aO ?aB ?aS ?aL ?_;(case aP=>exact rfl);(case aB=>exact zB);(case aF=>exact (fun _ _=>trivial));(case aO=>exact (by (with_reducible repeat (first|apply Kd.aK|apply Kd.aQ|apply Kd.aW));exact wK.out));(case aS=>exact (bF zB));(case aL=>have:=ave.out;omega);intro aBs w14 ho hb hg hat;rw [← avf.out] at ho;obtain ⟨HB,avg⟩:=zA2 hb ho;clear ho hb hg hat))
          go_roundg k2
          case measure=>have:=HJ2.out;have:=HK2.out;omega
          case rel=>exact ⟨(atj),(wrap64 (lQ+1)),zT,H',⟨by have:=HJ2.out;have:=HK2.out;omega⟩,⟨by (with_reducible repeat (first|apply Kd.aK|apply Kd.aQ|apply Kd.aW));exact avg.out⟩,⟨zB⟩⟩
         ·rw [if_neg c13] at H
          exact absurd H (by simp)
        ·rw [if_neg c11] at H
         exact absurd H (by simp)
       ·rw [if_neg c10] at H
        exact absurd H (by simp)
      ·rw [if_neg c9] at H
       have qO:=decide_eq_false c9
       clear c9
       simp only [Option.some.injEq,Prod.mk.injEq] at H
       obtain ⟨rfl,rfl⟩:=H
       go_wp2
       go_ret2
       exact ⟨_,zS,by (with_reducible repeat (first|apply Kd.aK|apply Kd.aQ|apply Kd.aW));exact wK.out,zB⟩
end Go.Proofs.YtpondkggmcmpfaaGreatDoor.QA
namespace Go.Proofs.YtpondkggmcmpfaaGreatDoor.QA
open Go.Proofs.YtpondkggmcmpfaaGreatDoor.T
open Go.RowKit Go.Proofs.YtpondkggmcmpfaaGreatDoorW.PrintWords Go.Proofs.YtpondkggmcmpfaaGreatDoorW.PrintLast Go.Proofs.YtpondkggmcmpfaaGreatDoorW.PrintMore
attribute [local go_sem] dY dS dU fA fB
set_option linter.unusedVariables false
set_option linter.unusedSimpArgs false
def bC.f (a0:Int):Option (Bool):=if a0≥1 then (some (decide (a0≤65536))) else (some false)
set_option maxHeartbeats 8000000 in
set_option maxRecDepth 100000 in
theorem bC.calls (a0:Int) (r:Bool) (w:World) (h:bC.f a0=some r) :
  Calls Tryz.prog 92 #[.int .i64 a0] w fun e w'=>e = .returned (.bool r)∧dw w w':=by
 have H:=h
 clear h
 unfold bC.f at H
 by_cases c2:a0≥1
 ·rw [if_pos c2] at H
  have lW:=decide_eq_true c2
  clear c2
  obtain rfl:=Option.some.inj H
  go_enter Tryz.func92,Tryz.ntmps92
  go_wp2
  go_ret
  exact ⟨by first|rfl|(simp;done)|(simp [*];done)|(simp [Int.tdiv_eq_ediv_of_nonneg (show (0:Int)≤268435456 by decide)];done),zW⟩
 ·rw [if_neg c2] at H
  have lW:=decide_eq_false c2
  clear c2
  obtain rfl:=Option.some.inj H
  go_enter Tryz.func92,Tryz.ntmps92
  go_wp2
  go_ret
  exact ⟨by first|rfl|(simp;done)|(simp [*];done)|(simp [Int.tdiv_eq_ediv_of_nonneg (show (0:Int)≤268435456 by decide)];done),zW⟩
def iH.f (a0:Int):Option (Bool):=if a0≥1 then (some (decide (a0≤65536))) else (some false)
set_option maxHeartbeats 8000000 in
set_option maxRecDepth 100000 in
theorem iH.calls (a0:Int) (r:Bool) (w:World) (h:iH.f a0=some r) :
  Calls Tryz.prog 113 #[.int .i64 a0] w fun e w'=>e = .returned (.bool r)∧dw w w':=by
 have H:=h
 clear h
 unfold iH.f at H
 by_cases c2:a0≥1
 ·rw [if_pos c2] at H
  have lW:=decide_eq_true c2
  clear c2
  obtain rfl:=Option.some.inj H
  go_enter Tryz.func113,Tryz.ntmps113
  go_wp2
  go_ret
  exact ⟨by first|rfl|(simp;done)|(simp [*];done)|(simp [Int.tdiv_eq_ediv_of_nonneg (show (0:Int)≤268435456 by decide)];done),zW⟩
 ·rw [if_neg c2] at H
  have lW:=decide_eq_false c2
  clear c2
  obtain rfl:=Option.some.inj H
  go_enter Tryz.func113,Tryz.ntmps113
  go_wp2
  go_ret
  exact ⟨by first|rfl|(simp;done)|(simp [*];done)|(simp [Int.tdiv_eq_ediv_of_nonneg (show (0:Int)≤268435456 by decide)];done),zW⟩
end Go.Proofs.YtpondkggmcmpfaaGreatDoor.QA
namespace Go.Proofs.YtpondkggmcmpfaaGreatDoor.QA
open Go.Proofs.YtpondkggmcmpfaaGreatDoor.T
open Go.RowKit Go.Proofs.YtpondkggmcmpfaaGreatDoorW.PrintWords Go.Proofs.YtpondkggmcmpfaaGreatDoorW.PrintLast Go.Proofs.YtpondkggmcmpfaaGreatDoorW.PrintMore
attribute [local go_sem] dY dS dU fA fB
set_option linter.unusedVariables false
set_option linter.unusedSimpArgs false
def kT.f (a0 a1 a2 a3:Int):Option (Bool):=if a0≥0 then (if a0≤2 then (if a1≥1 then (if a1≤65536 then (if a2≥1 then (if a2≤65536 then (if a3≥0 then (some (decide (a3 < a2))) else (some false)) else (some false)) else (some false)) else (some false)) else (some false)) else (some false)) else (some false)
set_option maxHeartbeats 8000000 in
set_option maxRecDepth 100000 in
theorem kT.calls (a0 a1 a2 a3:Int) (r:Bool) (w:World) (h:kT.f a0 a1 a2 a3=some r) :
  Calls Tryz.prog 139 #[.int .i64 a0,.int .i64 a1,.int .i64 a2,.int .i64 a3] w fun e w'=>e = .returned (.bool r)∧dw w w':=by
 have H:=h
 clear h
 unfold kT.f at H
 by_cases c5:a0≥0
 ·rw [if_pos c5] at H
  have iM:=decide_eq_true c5
  clear c5
  by_cases c6:a0≤2
  ·rw [if_pos c6] at H
   have iy:=decide_eq_true c6
   clear c6
   by_cases c7:a1≥1
   ·rw [if_pos c7] at H
    have jw:=decide_eq_true c7
    clear c7
    by_cases c8:a1≤65536
    ·rw [if_pos c8] at H
     have vX:=decide_eq_true c8
     clear c8
     by_cases c9:a2≥1
     ·rw [if_pos c9] at H
      have qO:=decide_eq_true c9
      clear c9
      by_cases c10:a2≤65536
      ·rw [if_pos c10] at H
       have qg:=decide_eq_true c10
       clear c10
       by_cases c11:a3≥0
       ·rw [if_pos c11] at H
        have iP:=decide_eq_true c11
        clear c11
        obtain rfl:=Option.some.inj H
        go_enter Tryz.func139,Tryz.ntmps139
        go_wp2
        go_ret
        exact ⟨zT,zW⟩
       ·rw [if_neg c11] at H
        have iP:=decide_eq_false c11
        clear c11
        obtain rfl:=Option.some.inj H
        go_enter Tryz.func139,Tryz.ntmps139
        go_wp2
        go_ret
        exact ⟨zT,zW⟩
      ·rw [if_neg c10] at H
       have qg:=decide_eq_false c10
       clear c10
       obtain rfl:=Option.some.inj H
       go_enter Tryz.func139,Tryz.ntmps139
       go_wp2
       go_ret
       exact ⟨zT,zW⟩
     ·rw [if_neg c9] at H
      have qO:=decide_eq_false c9
      clear c9
      obtain rfl:=Option.some.inj H
      go_enter Tryz.func139,Tryz.ntmps139
      go_wp2
      go_ret
      exact ⟨zT,zW⟩
    ·rw [if_neg c8] at H
     have vX:=decide_eq_false c8
     clear c8
     obtain rfl:=Option.some.inj H
     go_enter Tryz.func139,Tryz.ntmps139
     go_wp2
     go_ret
     exact ⟨zT,zW⟩
   ·rw [if_neg c7] at H
    have jw:=decide_eq_false c7
    clear c7
    obtain rfl:=Option.some.inj H
    go_enter Tryz.func139,Tryz.ntmps139
    go_wp2
    go_ret
    exact ⟨zT,zW⟩
  ·rw [if_neg c6] at H
   have iy:=decide_eq_false c6
   clear c6
   obtain rfl:=Option.some.inj H
   go_enter Tryz.func139,Tryz.ntmps139
   go_wp2
   go_ret
   exact ⟨zT,zW⟩
 ·rw [if_neg c5] at H
  have iM:=decide_eq_false c5
  clear c5
  obtain rfl:=Option.some.inj H
  go_enter Tryz.func139,Tryz.ntmps139
  go_wp2
  go_ret
  exact ⟨zT,zW⟩
def fP.f (a0 a1 a2 a3:Int):Option (Int × Int):=if a1 > a0 then (some (wrap64 ((wrap64 ((wrap64 ((wrap64 (2*a1))*a3)) - (wrap64 ((wrap64 ((wrap64 (2*a2))+1))*a0))))+a1),wrap64 (2*a1))) else (some (wrap64 ((wrap64 ((wrap64 ((wrap64 (2*a1))*a3)) - (wrap64 ((wrap64 ((wrap64 (2*a2))+1))*a0))))+a1),wrap64 (2*a0)))
set_option maxHeartbeats 8000000 in
set_option maxRecDepth 100000 in
theorem fP.calls (a0 a1 a2 a3 r1 r2:Int) (w:World) (h:fP.f a0 a1 a2 a3=some (r1,r2)) :
  Calls Tryz.prog 169 #[.int .i64 a0,.int .i64 a1,.int .i64 a2,.int .i64 a3] w fun e w'=>e = .returned (.tuple #[.int .i64 r1,.int .i64 r2])∧dw w w':=by
 have H:=h
 clear h
 unfold fP.f at H
 by_cases c5:a1 > a0
 ·rw [if_pos c5] at H
  have iM:=decide_eq_true c5
  clear c5
  simp only [Option.some.injEq,Prod.mk.injEq] at H
  obtain ⟨rfl,rfl⟩:=H
  go_enter Tryz.func169,Tryz.ntmps169
  go_wp2
  go_ret2
  exact ⟨zT,zW⟩
 ·rw [if_neg c5] at H
  have iM:=decide_eq_false c5
  clear c5
  simp only [Option.some.injEq,Prod.mk.injEq] at H
  obtain ⟨rfl,rfl⟩:=H
  go_enter Tryz.func169,Tryz.ntmps169
  go_wp2
  go_ret2
  exact ⟨zT,zW⟩
def iV.f (a0 a1 a2 a3 a4:Int):Option (Bool):=if a0=0 then (if (wrap64 ((wrap64 (a4+1))*a2)) > (wrap64 (a3*a1)) then (some (decide ((wrap64 (a4*a2)) < (wrap64 ((wrap64 (a3+1))*a1))))) else (some false)) else ((fP.f a1 a2 a3 a4).bind fun ab4=>(if a0=2 then (if ab4.1 < (wrap64 (3*ab4.2)) then (some (decide (ab4.1 > (wrap64 (-(wrap64 (3*ab4.2))))))) else (some false)) else (if ab4.1 < (wrap64 (2*ab4.2)) then (some (decide (ab4.1 > (wrap64 (-(wrap64 (2*ab4.2))))))) else (some false))))
set_option maxHeartbeats 8000000 in
set_option maxRecDepth 100000 in
theorem iV.calls (a0 a1 a2 a3 a4:Int) (r:Bool) (w:World) (h:iV.f a0 a1 a2 a3 a4=some r) :
  Calls Tryz.prog 140 #[.int .i64 a0,.int .i64 a1,.int .i64 a2,.int .i64 a3,.int .i64 a4] w fun e w'=>e = .returned (.bool r)∧dw w w':=by
 have H:=h
 clear h
 unfold iV.f at H
 by_cases c6:a0=0
 ·rw [if_pos c6] at H
  have iy:(a0 == 0)=true:=beq_iff_eq.mpr c6
  have uD:(a0 != 0)=false:=bne_eq_false_iff_eq.mpr c6
  clear c6
  by_cases c7:(wrap64 ((wrap64 (a4+1))*a2)) > (wrap64 (a3*a1))
  ·rw [if_pos c7] at H
   have jw:=decide_eq_true c7
   clear c7
   obtain rfl:=Option.some.inj H
   go_enter Tryz.func140,Tryz.ntmps140
   go_wp2
   go_ret
   exact ⟨zT,zW⟩
  ·rw [if_neg c7] at H
   have jw:=decide_eq_false c7
   clear c7
   obtain rfl:=Option.some.inj H
   go_enter Tryz.func140,Tryz.ntmps140
   go_wp2
   go_ret
   exact ⟨zT,zW⟩
 ·rw [if_neg c6] at H
  have iy:(a0 == 0)=false:=beq_eq_false_iff_ne.mpr c6
  have uD:(a0 != 0)=true:=bne_iff_ne.mpr c6
  replace H:=zO H
  obtain ⟨⟨ah5,ah6⟩,A8,H⟩:=H
  try dsimp only at H
  by_cases c9:a0=2
  ·rw [if_pos c9] at H
   have qO:(a0 == 2)=true:=beq_iff_eq.mpr c9
   have afu:(a0 != 2)=false:=bne_eq_false_iff_eq.mpr c9
   clear c9
   by_cases c10:ah5 < (wrap64 (3*ah6))
   ·rw [if_pos c10] at H
    have qg:=decide_eq_true c10
    clear c10
    obtain rfl:=Option.some.inj H
    go_enter Tryz.func140,Tryz.ntmps140
    go_wp2_with (first|((with_reducible refine aA (f:=169) rfl ?_);refine aH (some 39) rfl rfl Tryz.func169 (by kernel_rfl) rfl #[.int .i64 a1,.int .i64 a2,.int .i64 a3,.int .i64 a4] rfl zL ?_;(with_reducible refine (fP.calls a1 a2 a3 a4 ah5 ah6 _ A8.out).mono ?_);rintro e w' ⟨rfl,⟨nd,rfl⟩⟩;refine ⟨_,rfl,?_⟩))
    go_ret
    exact ⟨zT,zW⟩
   ·rw [if_neg c10] at H
    have qg:=decide_eq_false c10
    clear c10
    obtain rfl:=Option.some.inj H
    go_enter Tryz.func140,Tryz.ntmps140
    go_wp2_with (first|((with_reducible refine aA (f:=169) rfl ?_);refine aH (some 39) rfl rfl Tryz.func169 (by kernel_rfl) rfl #[.int .i64 a1,.int .i64 a2,.int .i64 a3,.int .i64 a4] rfl zL ?_;(with_reducible refine (fP.calls a1 a2 a3 a4 ah5 ah6 _ A8.out).mono ?_);rintro e w' ⟨rfl,⟨nd,rfl⟩⟩;refine ⟨_,rfl,?_⟩))
    go_ret
    exact ⟨zT,zW⟩
  ·rw [if_neg c9] at H
   have qO:(a0 == 2)=false:=beq_eq_false_iff_ne.mpr c9
   have afu:(a0 != 2)=true:=bne_iff_ne.mpr c9
   by_cases c11:ah5 < (wrap64 (2*ah6))
   ·rw [if_pos c11] at H
    have iP:=decide_eq_true c11
    clear c11
    obtain rfl:=Option.some.inj H
    go_enter Tryz.func140,Tryz.ntmps140
    go_wp2_with (first|((with_reducible refine aA (f:=169) rfl ?_);refine aH (some 39) rfl rfl Tryz.func169 (by kernel_rfl) rfl #[.int .i64 a1,.int .i64 a2,.int .i64 a3,.int .i64 a4] rfl zL ?_;(with_reducible refine (fP.calls a1 a2 a3 a4 ah5 ah6 _ A8.out).mono ?_);rintro e w' ⟨rfl,⟨nd,rfl⟩⟩;refine ⟨_,rfl,?_⟩))
    go_ret
    exact ⟨zT,zW⟩
   ·rw [if_neg c11] at H
    have iP:=decide_eq_false c11
    clear c11
    obtain rfl:=Option.some.inj H
    go_enter Tryz.func140,Tryz.ntmps140
    go_wp2_with (first|((with_reducible refine aA (f:=169) rfl ?_);refine aH (some 39) rfl rfl Tryz.func169 (by kernel_rfl) rfl #[.int .i64 a1,.int .i64 a2,.int .i64 a3,.int .i64 a4] rfl zL ?_;(with_reducible refine (fP.calls a1 a2 a3 a4 ah5 ah6 _ A8.out).mono ?_);rintro e w' ⟨rfl,⟨nd,rfl⟩⟩;refine ⟨_,rfl,?_⟩))
    go_ret
    exact ⟨zT,zW⟩
def dN.f (a0:Int):Option (Int):=if a0 < 0 then (some (IntKind.u64.wrap ((IntKind.u64.wrap (wrap64 (-(wrap64 (a0+1)))))+1))) else (some (IntKind.u64.wrap (a0)))
set_option maxHeartbeats 8000000 in
set_option maxRecDepth 100000 in
theorem dN.calls (a0 r:Int) (w:World) (h:dN.f a0=some r) :
  Calls Tryz.prog 120 #[.int .i64 a0] w fun e w'=>e = .returned (.int .u64 r)∧dw w w':=by
 have H:=h
 clear h
 unfold dN.f at H
 by_cases c2:a0 < 0
 ·rw [if_pos c2] at H
  have lW:=decide_eq_true c2
  clear c2
  obtain rfl:=Option.some.inj H
  go_enter Tryz.func120,Tryz.ntmps120
  go_wp2
  go_ret
  exact ⟨zT,zW⟩
 ·rw [if_neg c2] at H
  have lW:=decide_eq_false c2
  clear c2
  obtain rfl:=Option.some.inj H
  go_enter Tryz.func120,Tryz.ntmps120
  go_wp2
  go_ret
  exact ⟨zT,zW⟩
def dL.f (bJ dB a1:Int):Option (Int × Int):=some (IntKind.u64.wrap ((IntKind.u64.wrap (bJ*2))+(dB / 9223372036854775808)),IntKind.u64.wrap ((IntKind.u64.wrap (dB*2))+a1))
set_option maxHeartbeats 8000000 in
set_option maxRecDepth 100000 in
theorem dL.calls (bJ dB a1 r1 r2:Int) (w:World) (h:dL.f bJ dB a1=some (r1,r2)) :
  Calls Tryz.prog 119 #[.agg #[.int .u64 bJ,.int .u64 dB],.int .u64 a1] w fun e w'=>e = .returned (.agg #[.int .u64 r1,.int .u64 r2])∧Below w.heap.size w w':=by
 have xI:=Tryz.underlying179
 have HB:=aj.mk (Below.refl w.heap.size w)
 have H:=h
 clear h
 unfold dL.f at H
 simp only [Option.some.injEq,Prod.mk.injEq] at H
 obtain ⟨rfl,rfl⟩:=H
 go_enter Tryz.func119,Tryz.ntmps119
 go_wp2_with (first|((with_reducible refine bK (N:=2) rfl ?_);refine bT zR (N:=2) zR (cs := #[.int .u64 bJ,.int .u64 dB]) (t:=179) zG ?_;intro aAF hg w3 hbox hb;obtain ⟨HB,ae1,aAG,aAH⟩:=zA4 (ak zB hb) hbox (zg hg zB) (zg hg zB);clear hb hbox hg)|((with_reducible refine bK (N:=4) rfl ?_);refine bT zR (N:=4) zR (cs := #[.int .u64 0,.int .u64 0]) (t:=179) zG ?_;intro avh hg w4 hbox hb;obtain ⟨ae1,HB,ang,aAI,aAJ,aod,aoe⟩:=zA7 (ay (zK ae1) hb) (ak zB hb) hbox (zg hg zB) (zg hg zB) (zl hg (zK ae1)) (zr hg (zK ae1));clear hb hbox hg;have awx:=aod.out;have awy:=aoe.out;obtain ⟨_,_⟩:=zC2 ae1.out;obtain ⟨_,_⟩:=zF2 ae1.out;obtain ⟨_,_⟩:=zC2 ang.out;obtain ⟨_,_⟩:=zF2 ang.out))
 refine bodyPost_ret (results_cell_row rfl _ _ avh 179 #[.int .u64 (IntKind.u64.wrap ((IntKind.u64.wrap (bJ*2))+(dB / 9223372036854775808))),.int .u64 (IntKind.u64.wrap ((IntKind.u64.wrap (dB*2))+a1))] (0,0) _ rfl (by refine zD ?_;refine aY (cs := #[.int .u64 (IntKind.u64.wrap ((IntKind.u64.wrap (bJ*2))+(dB / 9223372036854775808))),.int .u64 0]) ?_ 1 _ rfl;refine zD ?_;refine aY (cs := #[.int .u64 0,.int .u64 0]) ?_ 0 _ rfl;refine zD ?_;exact ang.out) Tryz.underlying179 rfl (by kernel_rfl)) rfl ?_
 exact ⟨zS,zB⟩
def gJ.f (bJ dB kV nT:Int):Option (Int × Int):=if (IntKind.u64.wrap (dB+nT)) < dB then (some (IntKind.u64.wrap ((IntKind.u64.wrap (bJ+kV))+1),IntKind.u64.wrap (dB+nT))) else (some (IntKind.u64.wrap (bJ+kV),IntKind.u64.wrap (dB+nT)))
set_option maxHeartbeats 8000000 in
set_option maxRecDepth 100000 in
theorem gJ.calls (bJ dB kV nT r1 r2:Int) (w:World) (h:gJ.f bJ dB kV nT=some (r1,r2)) :
  Calls Tryz.prog 124 #[.agg #[.int .u64 bJ,.int .u64 dB],.agg #[.int .u64 kV,.int .u64 nT]] w fun e w'=>e = .returned (.agg #[.int .u64 r1,.int .u64 r2])∧Below w.heap.size w w':=by
 have xI:=Tryz.underlying179
 have HB:=aj.mk (Below.refl w.heap.size w)
 have H:=h
 clear h
 unfold gJ.f at H
 by_cases c3:(IntKind.u64.wrap (dB+nT)) < dB
 ·rw [if_pos c3] at H
  have fQ:=decide_eq_true c3
  clear c3
  simp only [Option.some.injEq,Prod.mk.injEq] at H
  obtain ⟨rfl,rfl⟩:=H
  go_enter Tryz.func124,Tryz.ntmps124
  go_wp2_with (first|((with_reducible refine bK (N:=2) rfl ?_);refine bT zR (N:=2) zR (cs := #[.int .u64 bJ,.int .u64 dB]) (t:=179) zG ?_;intro avi hg w4 hbox hb;obtain ⟨HB,jX,avj,avk⟩:=zA4 (ak zB hb) hbox (zg hg zB) (zg hg zB);clear hb hbox hg)|((with_reducible refine bK (N:=3) rfl ?_);refine bT zR (N:=3) zR (cs := #[.int .u64 kV,.int .u64 nT]) (t:=179) zG ?_;intro avl hg w5 hbox hb;obtain ⟨jX,HB,oW,avm,avn,aev,aew⟩:=zA7 (ay (zK jX) hb) (ak zB hb) hbox (zg hg zB) (zg hg zB) (zl hg (zK jX)) (zr hg (zK jX));clear hb hbox hg)|((with_reducible refine bK (N:=4) rfl ?_);refine bT zR (N:=4) zR (cs := #[.int .u64 0,.int .u64 0]) (t:=179) zG ?_;intro anh hg w6 hbox hb;obtain ⟨jX,oW,HB,uO,avo,avp,aex,aey,aez,aeA⟩:=adI (ay (zK jX) hb) (ay (zK oW) hb) (ak zB hb) hbox (zg hg zB) (zg hg zB) (zl hg (zK jX)) (zr hg (zK jX)) (zl hg (zK oW)) (zr hg (zK oW));clear hb hbox hg;have asx:=aev.out;have asy:=aew.out;have asz:=aex.out;have asA:=aey.out;obtain ⟨_,_⟩:=zC2 jX.out;obtain ⟨_,_⟩:=zF2 jX.out;have atJ:=aez.out;have atK:=aeA.out;obtain ⟨_,_⟩:=zC2 oW.out;obtain ⟨_,_⟩:=zF2 oW.out)|((with_reducible refine bK (N:=5) rfl ?_);refine bT zR (N:=5) zR (cs := #[.int .u64 0,.int .u64 0]) (t:=179) zG ?_;intro avq hg w12 hbox hb;obtain ⟨jX,oW,uO,HB,ag5,avr,avs,aeB,aeC,aeD,aeE,uw,aeF⟩:=afq (ay (zK jX) hb) (ay (zK oW) hb) (ay (zK uO) hb) (ak zB hb) hbox (zg hg zB) (zg hg zB) (zl hg (zK jX)) (zr hg (zK jX)) (zl hg (zK oW)) (zr hg (zK oW)) (zl hg (zK uO)) (zr hg (zK uO));clear hb hbox hg;have amg:=aeC.out;have amh:=aeB.out;have aqE:=aeE.out;have aqF:=aeD.out;have atO:=aeF.out;have atP:=uw.out;obtain ⟨_,_⟩:=zC2 ag5.out;obtain ⟨_,_⟩:=zF2 ag5.out;obtain ⟨_,_⟩:=zC2 jX.out;obtain ⟨_,_⟩:=zF2 jX.out;obtain ⟨_,_⟩:=zC2 uO.out;obtain ⟨_,_⟩:=zF2 uO.out))
  refine bodyPost_ret (results_cell_row rfl _ _ anh 179 #[.int .u64 (IntKind.u64.wrap ((IntKind.u64.wrap (bJ+kV))+1)),.int .u64 (IntKind.u64.wrap (dB+nT))] (0,0) _ rfl (by refine zD ?_;refine aY (cs := #[.int .u64 (IntKind.u64.wrap ((IntKind.u64.wrap (bJ+kV))+1)),.int .u64 0]) ?_ 1 _ rfl;refine zD ?_;refine aY (cs := #[.int .u64 0,.int .u64 0]) ?_ 0 _ rfl;refine zD ?_;refine iI ?_ uw.out _;refine zD ?_;refine iI ?_ uw.out _;refine zD ?_;refine iI ?_ uw.out _;refine zD ?_;exact uO.out) Tryz.underlying179 rfl (by kernel_rfl)) rfl ?_
  exact ⟨zS,zB⟩
 ·rw [if_neg c3] at H
  have fQ:=decide_eq_false c3
  clear c3
  simp only [Option.some.injEq,Prod.mk.injEq] at H
  obtain ⟨rfl,rfl⟩:=H
  go_enter Tryz.func124,Tryz.ntmps124
  go_wp2_with (first|((with_reducible refine bK (N:=2) rfl ?_);refine bT zR (N:=2) zR (cs := #[.int .u64 bJ,.int .u64 dB]) (t:=179) zG ?_;intro avi hg w19 hbox hb;obtain ⟨HB,jX,avj,avk⟩:=zA4 (ak zB hb) hbox (zg hg zB) (zg hg zB);clear hb hbox hg)|((with_reducible refine bK (N:=3) rfl ?_);refine bT zR (N:=3) zR (cs := #[.int .u64 kV,.int .u64 nT]) (t:=179) zG ?_;intro avl hg w20 hbox hb;obtain ⟨jX,HB,oW,avm,avn,aev,aew⟩:=zA7 (ay (zK jX) hb) (ak zB hb) hbox (zg hg zB) (zg hg zB) (zl hg (zK jX)) (zr hg (zK jX));clear hb hbox hg)|((with_reducible refine bK (N:=4) rfl ?_);refine bT zR (N:=4) zR (cs := #[.int .u64 0,.int .u64 0]) (t:=179) zG ?_;intro anh hg w21 hbox hb;obtain ⟨jX,oW,HB,uO,avo,avp,aex,aey,aez,aeA⟩:=adI (ay (zK jX) hb) (ay (zK oW) hb) (ak zB hb) hbox (zg hg zB) (zg hg zB) (zl hg (zK jX)) (zr hg (zK jX)) (zl hg (zK oW)) (zr hg (zK oW));clear hb hbox hg;have aqJ:=aev.out;have aqK:=aew.out;have ami:=aex.out;have amj:=aey.out;obtain ⟨_,_⟩:=zC2 jX.out;obtain ⟨_,_⟩:=zF2 jX.out;have aue:=aez.out;have auf:=aeA.out;obtain ⟨_,_⟩:=zC2 oW.out;obtain ⟨_,_⟩:=zF2 oW.out)|((with_reducible refine bK (N:=5) rfl ?_);refine bT zR (N:=5) zR (cs := #[.int .u64 0,.int .u64 0]) (t:=179) zG ?_;intro avq hg w27 hbox hb;obtain ⟨jX,oW,uO,HB,ag5,avr,avs,aeB,aeC,aeD,aeE,uw,aeF⟩:=afq (ay (zK jX) hb) (ay (zK oW) hb) (ay (zK uO) hb) (ak zB hb) hbox (zg hg zB) (zg hg zB) (zl hg (zK jX)) (zr hg (zK jX)) (zl hg (zK oW)) (zr hg (zK oW)) (zl hg (zK uO)) (zr hg (zK uO));clear hb hbox hg;have auv:=aeC.out;have auw:=aeB.out;have amk:=aeE.out;have aml:=aeD.out;have aqG:=aeF.out;have aqH:=uw.out;obtain ⟨_,_⟩:=zC2 ag5.out;obtain ⟨_,_⟩:=zF2 ag5.out;obtain ⟨_,_⟩:=zC2 jX.out;obtain ⟨_,_⟩:=zF2 jX.out;obtain ⟨_,_⟩:=zC2 uO.out;obtain ⟨_,_⟩:=zF2 uO.out))
  refine bodyPost_ret (results_cell_row rfl _ _ anh 179 #[.int .u64 (IntKind.u64.wrap (bJ+kV)),.int .u64 (IntKind.u64.wrap (dB+nT))] (0,0) _ rfl (by refine zD ?_;refine aY (cs := #[.int .u64 (IntKind.u64.wrap (bJ+kV)),.int .u64 0]) ?_ 1 _ rfl;refine zD ?_;refine aY (cs := #[.int .u64 0,.int .u64 0]) ?_ 0 _ rfl;refine zD ?_;refine iI ?_ uw.out _;refine zD ?_;refine iI ?_ uw.out _;refine zD ?_;exact uO.out) Tryz.underlying179 rfl (by kernel_rfl)) rfl ?_
  exact ⟨zS,zB⟩
end Go.Proofs.YtpondkggmcmpfaaGreatDoor.QA
namespace Go.Proofs.YtpondkggmcmpfaaGreatDoor.QA
open Go.Proofs.YtpondkggmcmpfaaGreatDoor.T
open Go.RowKit Go.Proofs.YtpondkggmcmpfaaGreatDoorW.PrintWords Go.Proofs.YtpondkggmcmpfaaGreatDoorW.PrintLast Go.Proofs.YtpondkggmcmpfaaGreatDoorW.PrintMore
attribute [local go_sem] dY dS dU fA fB
set_option linter.unusedVariables false
set_option linter.unusedSimpArgs false
def dQ.l0:Nat→Int→Int→Int→Int→Int→Option (Int × Int)
 | 0,_,_,_,_,_=>none
 | k+1,x0,x1,x6,alC,alD=>if x6≥0 then ((dL.f alC alD 0).bind fun ajd=>(if 0≤x6 then (if (Go.bits .and .u64 (shr .u64 x1 x6) 1)=1 then ((gJ.f ajd.1 ajd.2 0 x0).bind fun ag6=>(dQ.l0 k x0 x1 (wrap64 (x6 - 1)) ag6.1 ag6.2)) else (dQ.l0 k x0 x1 (wrap64 (x6 - 1)) ajd.1 ajd.2)) else (none))) else (some (alC,alD))
def dQ.f (k:Nat) (a0 a1:Int):Option (Int × Int):=dQ.l0 k a0 a1 63 0 0
set_option maxHeartbeats 8000000 in
set_option maxRecDepth 100000 in
theorem dQ.calls (k:Nat) (a0 a1 r1 r2:Int) (w:World) (h:dQ.f k a0 a1=some (r1,r2)) :
  Calls Tryz.prog 148 #[.int .u64 a0,.int .u64 a1] w fun e w'=>e = .returned (.agg #[.int .u64 r1,.int .u64 r2])∧Below w.heap.size w w':=by
 have xI:=Tryz.underlying179
 have HB:=aj.mk (Below.refl w.heap.size w)
 have H:=h
 clear h
 unfold dQ.f at H
 have H':=aj.mk H
 clear H
 go_enter Tryz.func148,Tryz.ntmps148
 go_wp2_with (first|((with_reducible refine bK (N:=4) rfl ?_);refine bT zR (N:=4) zR (cs := #[.int .u64 0,.int .u64 0]) (t:=179) zG ?_;intro aq9 hg w3 hbox hb;obtain ⟨HB,rW,aAK,aAL⟩:=zA4 (ak zB hb) hbox (zg hg zB) (zg hg zB);clear hb hbox hg)|((with_reducible refine bK (N:=5) rfl ?_);refine bT zR (N:=5) zR (cs := #[.int .u64 0,.int .u64 0]) (t:=179) zG ?_;intro ara hg w4 hbox hb;obtain ⟨rW,HB,nP,aAM,aAN,ab5,ab6⟩:=zA7 (ay (zK rW) hb) (ak zB hb) hbox (zg hg zB) (zg hg zB) (zl hg (zK rW)) (zr hg (zK rW));clear hb hbox hg;have awx:=ab6.out;have awy:=ab5.out;obtain ⟨_,_⟩:=zC2 nP.out;obtain ⟨_,_⟩:=zF2 nP.out))
 go_loopg [6] k (fun kq v6 w'=>∃ (pJ:Int) (pK:Int) (oH:Int),v6 = .int .i64 pJ∧aj (dQ.l0 kq a0 a1 pJ pK oH=some (r1,r2))∧aj (kq≤k)∧aj (w'.heap[aq9]? = some (.cells #[.int .u64 0,.int .u64 0] 179 (0,0)))∧aj (w'.heap[ara]? = some (.cells #[.int .u64 pK,.int .u64 oH] 179 (0,0)))∧aj (Below w.heap.size w w'))
 case atStart=>exact ⟨(63),(0),(0),zT,H',⟨Nat.le_refl _⟩,⟨zK rW⟩,⟨by refine zD ?_;refine aY (cs := #[.int .u64 0,.int .u64 0]) ?_ 1 _ rfl;refine zD ?_;refine aY (cs := #[.int .u64 0,.int .u64 0]) ?_ 0 _ rfl;refine zD ?_;exact nP.out⟩,⟨zB⟩⟩
 case round =>
  clear H'
  obtain ⟨pJ,pK,oH,rfl,HA,HK1,rW,nP,HB⟩:=hrel
  cases gk with
  | zero=>exact absurd HA.out (by simp [dQ.l0])
  | succ k1 =>
   have H:=HA.out
   clear HA
   simp only [dQ.l0] at H
   by_cases c7:pJ≥0
   ·rw [if_pos c7] at H
    have jw:=decide_eq_true c7
    clear c7
    replace H:=zO H
    obtain ⟨⟨abD,acr⟩,A8,H⟩:=H
    try dsimp only at H
    by_cases c9:0≤pJ
    ·rw [if_pos c9] at H
     have qO:=eq_true c9
     have afu:=decide_eq_true c9
     clear c9
     obtain ⟨dG,jL⟩:∃ j_:Int,(shr .u64 a1 pJ)=j_:=⟨_,rfl⟩
     replace H:(if (Go.bits .and .u64 (dG) 1)=1 then ((gJ.f abD acr 0 a0).bind fun ag6=>(dQ.l0 k1 a0 a1 (wrap64 (pJ - 1)) ag6.1 ag6.2)) else (dQ.l0 k1 a0 a1 (wrap64 (pJ - 1)) abD acr))=some (r1,r2):=by first|(rw [jL] at H;exact H)|(simp only [jL] at H ⊢;exact H)
     (try rw [jL] at A8)
     have aks:(a1 / 2 ^ min pJ.toNat 64)=dG:=jL
     have anZ:pJ≤64→(a1 / 2 ^ pJ.toNat)=dG:=oZ jL
     by_cases c11:(Go.bits .and .u64 (dG) 1)=1
     ·rw [if_pos c11] at H
      have iP:((Go.bits .and .u64 (dG) 1) == 1)=true:=beq_iff_eq.mpr c11
      have yJ:((Go.bits .and .u64 (dG) 1) != 1)=false:=bne_eq_false_iff_eq.mpr c11
      clear c11
      replace H:=zO H
      obtain ⟨⟨aqi,atl⟩,A12,H⟩:=H
      try dsimp only at H
      have H':=aj.mk H
      clear H
      have amg:=ab6.out
      have amh:=ab5.out
      obtain ⟨_,_⟩:=zC2 nP.out
      obtain ⟨_,_⟩:=zF2 nP.out
      go_wp2_with (first|((with_reducible refine aA (f:=119) rfl ?_);refine aH (some 13) rfl rfl Tryz.func119 (by kernel_rfl) rfl #[.agg #[.int .u64 pK,.int .u64 oH],.int .u64 0] rfl zL ?_;(with_reducible refine (dL.calls pK oH 0 abD acr _ A8.out).mono ?_);rintro e w15 ⟨rfl,hb⟩;refine ⟨_,rfl,?_⟩;obtain ⟨rW,nP,HB⟩:=zA3 (ay (zK rW) hb) (ay (zK nP) hb) (ak zB hb);(try clear hb);obtain ⟨_,_⟩:=zC2 nP.out;obtain ⟨_,_⟩:=zF2 nP.out)|((with_reducible refine aA (f:=124) rfl ?_);refine aH (some 22) rfl rfl Tryz.func124 (by kernel_rfl) rfl #[.agg #[.int .u64 abD,.int .u64 acr],.agg #[.int .u64 0,.int .u64 a0]] rfl zL ?_;(with_reducible refine (gJ.calls abD acr 0 a0 aqi atl _ A12.out).mono ?_);rintro e w17 ⟨rfl,hb⟩;refine ⟨_,rfl,?_⟩;obtain ⟨rW,nP,HB⟩:=zA3 (ay (zK rW) hb) (ay (g:=ara) (o := .cells #[.int .u64 abD,.int .u64 acr] 179 (0,0)) (by refine zD ?_;refine aY (cs := #[.int .u64 abD,.int .u64 oH]) ?_ 1 _ rfl;refine zD ?_;refine aY (cs := #[.int .u64 pK,.int .u64 oH]) ?_ 0 _ rfl;refine zD ?_;exact nP.out) hb) (ak zB hb);(try clear hb);obtain ⟨_,_⟩:=zC2 nP.out;obtain ⟨_,_⟩:=zF2 nP.out))
      go_roundg k1
      case measure=>have:=HK1.out;omega
      case rel=>exact ⟨(wrap64 (pJ - 1)),(aqi),(atl),zT,H',⟨by have:=HK1.out;omega⟩,⟨zK rW⟩,⟨by refine zD ?_;refine aY (cs := #[.int .u64 aqi,.int .u64 acr]) ?_ 1 _ rfl;refine zD ?_;refine aY (cs := #[.int .u64 abD,.int .u64 acr]) ?_ 0 _ rfl;refine zD ?_;exact nP.out⟩,⟨zB⟩⟩
     ·rw [if_neg c11] at H
      have iP:((Go.bits .and .u64 (dG) 1) == 1)=false:=beq_eq_false_iff_ne.mpr c11
      have yJ:((Go.bits .and .u64 (dG) 1) != 1)=true:=bne_iff_ne.mpr c11
      have H':=aj.mk H
      clear H
      have aAO:=ab6.out
      have aAP:=ab5.out
      obtain ⟨_,_⟩:=zC2 nP.out
      obtain ⟨_,_⟩:=zF2 nP.out
      go_wp2_with (first|((with_reducible refine aA (f:=119) rfl ?_);refine aH (some 13) rfl rfl Tryz.func119 (by kernel_rfl) rfl #[.agg #[.int .u64 pK,.int .u64 oH],.int .u64 0] rfl zL ?_;(with_reducible refine (dL.calls pK oH 0 abD acr _ A8.out).mono ?_);rintro e w21 ⟨rfl,hb⟩;refine ⟨_,rfl,?_⟩;obtain ⟨rW,nP,HB⟩:=zA3 (ay (zK rW) hb) (ay (zK nP) hb) (ak zB hb);(try clear hb);obtain ⟨_,_⟩:=zC2 nP.out;obtain ⟨_,_⟩:=zF2 nP.out))
      go_roundg k1
      case measure=>have:=HK1.out;omega
      case rel=>exact ⟨(wrap64 (pJ - 1)),(abD),(acr),zT,H',⟨by have:=HK1.out;omega⟩,⟨zK rW⟩,⟨by refine zD ?_;refine aY (cs := #[.int .u64 abD,.int .u64 oH]) ?_ 1 _ rfl;refine zD ?_;refine aY (cs := #[.int .u64 pK,.int .u64 oH]) ?_ 0 _ rfl;refine zD ?_;exact nP.out⟩,⟨zB⟩⟩
    ·rw [if_neg c9] at H
     exact absurd H (by simp)
   ·rw [if_neg c7] at H
    have jw:=decide_eq_false c7
    clear c7
    simp only [Option.some.injEq,Prod.mk.injEq] at H
    obtain ⟨rfl,rfl⟩:=H
    have ami:=ab6.out
    have amj:=ab5.out
    obtain ⟨_,_⟩:=zC2 nP.out
    obtain ⟨_,_⟩:=zF2 nP.out
    obtain ⟨_,_⟩:=zC2 rW.out
    obtain ⟨_,_⟩:=zF2 rW.out
    go_wp2
    refine bodyPost_ret (results_cell_row rfl _ _ aq9 179 #[.int .u64 pK,.int .u64 oH] (0,0) _ rfl (by refine zD ?_;refine aY (cs := #[.int .u64 pK,.int .u64 0]) ?_ 1 _ rfl;refine zD ?_;refine aY (cs := #[.int .u64 0,.int .u64 0]) ?_ 0 _ rfl;refine zD ?_;exact rW.out) Tryz.underlying179 rfl (by kernel_rfl)) rfl ?_
    exact ⟨zS,zB⟩
def ig.f (bJ dB kV nT:Int):Option (Bool):=if bJ=kV then (some (decide (dB < nT))) else (some (decide (bJ < kV)))
set_option maxHeartbeats 8000000 in
set_option maxRecDepth 100000 in
theorem ig.calls (bJ dB kV nT:Int) (r:Bool) (w:World) (h:ig.f bJ dB kV nT=some r) :
  Calls Tryz.prog 123 #[.agg #[.int .u64 bJ,.int .u64 dB],.agg #[.int .u64 kV,.int .u64 nT]] w fun e w'=>e = .returned (.bool r)∧Below w.heap.size w w':=by
 have xI:=Tryz.underlying179
 have HB:=aj.mk (Below.refl w.heap.size w)
 have H:=h
 clear h
 unfold ig.f at H
 by_cases c3:bJ=kV
 ·rw [if_pos c3] at H
  have fQ:(bJ == kV)=true:=beq_iff_eq.mpr c3
  have wS:(bJ != kV)=false:=bne_eq_false_iff_eq.mpr c3
  clear c3
  obtain rfl:=Option.some.inj H
  go_enter Tryz.func123,Tryz.ntmps123
  go_wp2_with (first|((with_reducible refine bK (N:=2) rfl ?_);refine bT zR (N:=2) zR (cs := #[.int .u64 bJ,.int .u64 dB]) (t:=179) zG ?_;intro avt hg w4 hbox hb;obtain ⟨HB,wP,avu,avv⟩:=zA4 (ak zB hb) hbox (zg hg zB) (zg hg zB);clear hb hbox hg)|((with_reducible refine bK (N:=3) rfl ?_);refine bT zR (N:=3) zR (cs := #[.int .u64 kV,.int .u64 nT]) (t:=179) zG ?_;intro avw hg w5 hbox hb;obtain ⟨wP,HB,ag7,avx,avy,aeG,aeH⟩:=zA7 (ay (zK wP) hb) (ak zB hb) hbox (zg hg zB) (zg hg zB) (zl hg (zK wP)) (zr hg (zK wP));clear hb hbox hg;have aBt:=aeG.out;have aBu:=aeH.out;obtain ⟨_,_⟩:=zC2 wP.out;obtain ⟨_,_⟩:=zF2 wP.out;obtain ⟨_,_⟩:=zC2 ag7.out;obtain ⟨_,_⟩:=zF2 ag7.out))
  go_ret
  exact ⟨zS,zB⟩
 ·rw [if_neg c3] at H
  have fQ:(bJ == kV)=false:=beq_eq_false_iff_ne.mpr c3
  have wS:(bJ != kV)=true:=bne_iff_ne.mpr c3
  obtain rfl:=Option.some.inj H
  go_enter Tryz.func123,Tryz.ntmps123
  go_wp2_with (first|((with_reducible refine bK (N:=2) rfl ?_);refine bT zR (N:=2) zR (cs := #[.int .u64 bJ,.int .u64 dB]) (t:=179) zG ?_;intro avt hg w9 hbox hb;obtain ⟨HB,wP,avu,avv⟩:=zA4 (ak zB hb) hbox (zg hg zB) (zg hg zB);clear hb hbox hg)|((with_reducible refine bK (N:=3) rfl ?_);refine bT zR (N:=3) zR (cs := #[.int .u64 kV,.int .u64 nT]) (t:=179) zG ?_;intro avw hg w10 hbox hb;obtain ⟨wP,HB,ag7,avx,avy,aeG,aeH⟩:=zA7 (ay (zK wP) hb) (ak zB hb) hbox (zg hg zB) (zg hg zB) (zl hg (zK wP)) (zr hg (zK wP));clear hb hbox hg;have at6:=aeG.out;have at7:=aeH.out;obtain ⟨_,_⟩:=zC2 wP.out;obtain ⟨_,_⟩:=zF2 wP.out;obtain ⟨_,_⟩:=zC2 ag7.out;obtain ⟨_,_⟩:=zF2 ag7.out))
  go_ret
  exact ⟨zS,zB⟩
def bM.j0:Nat→Bool→Int→Int→Option (Int)
 | 0,_,_,_=>none
 | k+1,x13,axX,arY=>if x13=true then (some (-9223372036854775808)) else (some (wrap64 (-(wrap64 (arY)))))
def bM.f (k:Nat) (bJ dB:Int) (a1:Bool):Option (Int):=if a1=true then (if bJ > 0 then (bM.j0 k true bJ dB) else (bM.j0 k (decide (dB > 9223372036854775807)) bJ dB)) else (if bJ > 0 then (some 9223372036854775807) else (if dB > 9223372036854775807 then (some 9223372036854775807) else (some (wrap64 (dB)))))
set_option maxHeartbeats 8000000 in
set_option maxRecDepth 100000 in
theorem bM.calls (k:Nat) (bJ dB:Int) (a1:Bool) (r:Int) (w:World) (h:bM.f k bJ dB a1=some r) :
  Calls Tryz.prog 125 #[.agg #[.int .u64 bJ,.int .u64 dB],.bool a1] w fun e w'=>e = .returned (.int .i64 r)∧Below w.heap.size w w':=by
 have xI:=Tryz.underlying179
 have HB:=aj.mk (Below.refl w.heap.size w)
 have H:=h
 clear h
 unfold bM.f at H
 by_cases c3:a1=true
 ·subst c3
  rw [if_pos rfl] at H;try dsimp only at H
  have HC4:=aj.mk H
  clear H
  go_enter Tryz.func125,Tryz.ntmps125
  go_upto_region 2 with (first|((with_reducible refine bK (N:=2) rfl ?_);refine bT zR (N:=2) zR (cs := #[.int .u64 bJ,.int .u64 dB]) (t:=179) zG ?_;intro aje hg w5 hbox hb;obtain ⟨HB,qN,ani,anj⟩:=zA4 (ak zB hb) hbox (zg hg zB) (zg hg zB);clear hb hbox hg))
  (try simp only [Act.put,List.setIfInBounds_toArray,List.set_cons_zero,List.set_cons_succ])
  go_cut [13] (fun v13 wc=>∃ (kq:Nat) (ajf:Bool),v13 = .bool ajf∧aj (bM.j0 kq ajf bJ dB=some r)∧aj (kq≤k)∧aj (wc.heap[aje]? = some (.cells #[.int .u64 bJ,.int .u64 dB] 179 (0,0)))∧aj (Below w.heap.size w wc))
  case first =>
   have H:=HC4.out
   clear HC4
   by_cases c6:bJ > 0
   ·rw [if_pos c6] at H
    have iy:=decide_eq_true c6
    clear c6
    (first|rw [iy]|(simp only [bW,dA];rw [iy])|skip)
    have H':=aj.mk H
    clear H
    obtain ⟨_,_⟩:=zC2 qN.out
    obtain ⟨_,_⟩:=zF2 qN.out
    go_wp2
    go_meet
    case rel=>exact ⟨_,(true),zT,H',⟨by first|omega|exact Nat.le_refl _⟩,⟨zK qN⟩,⟨zB⟩⟩
   ·rw [if_neg c6] at H
    have iy:=decide_eq_false c6
    clear c6
    (first|rw [iy]|(simp only [bW,dA];rw [iy])|skip)
    have H':=aj.mk H
    clear H
    obtain ⟨_,_⟩:=zC2 qN.out
    obtain ⟨_,_⟩:=zF2 qN.out
    go_wp2
    go_meet
    case rel=>exact ⟨_,(decide (dB > 9223372036854775807)),zT,H',⟨by first|omega|exact Nat.le_refl _⟩,⟨zK qN⟩,⟨zB⟩⟩
  case rest =>
   clear HC4
   obtain ⟨kq,ajf,rfl,HA,HJ3,qN,HB⟩:=hcut
   cases kq with
   | zero=>exact absurd HA.out (by simp [bM.j0])
   | succ kj3 =>
    have H:=HA.out
    clear HA
    simp only [bM.j0] at H
    by_cases c9:ajf=true
    ·subst c9
     rw [if_pos rfl] at H;try dsimp only at H
     obtain rfl:=Option.some.inj H
     go_wp2
     go_ret
     exact ⟨zS,zB⟩
    ·replace c9:=Bool.eq_false_iff.mpr c9
     subst c9
     rw [if_neg (show ¬ (false=true) by decide)] at H;try dsimp only at H
     obtain rfl:=Option.some.inj H
     obtain ⟨_,_⟩:=zC2 qN.out
     obtain ⟨_,_⟩:=zF2 qN.out
     go_wp2
     go_ret
     exact ⟨zS,zB⟩
 ·replace c3:=Bool.eq_false_iff.mpr c3
  subst c3
  rw [if_neg (show ¬ (false=true) by decide)] at H;try dsimp only at H
  by_cases c11:bJ > 0
  ·rw [if_pos c11] at H
   have iP:=decide_eq_true c11
   clear c11
   obtain rfl:=Option.some.inj H
   go_enter Tryz.func125,Tryz.ntmps125
   go_wp2_with (first|((with_reducible refine bK (N:=2) rfl ?_);refine bT zR (N:=2) zR (cs := #[.int .u64 bJ,.int .u64 dB]) (t:=179) zG ?_;intro aje hg w12 hbox hb;obtain ⟨HB,qN,ani,anj⟩:=zA4 (ak zB hb) hbox (zg hg zB) (zg hg zB);clear hb hbox hg;obtain ⟨_,_⟩:=zC2 qN.out;obtain ⟨_,_⟩:=zF2 qN.out))
   go_ret
   exact ⟨zS,zB⟩
  ·rw [if_neg c11] at H
   have iP:=decide_eq_false c11
   clear c11
   by_cases c14:dB > 9223372036854775807
   ·rw [if_pos c14] at H
    have abW:=decide_eq_true c14
    clear c14
    obtain rfl:=Option.some.inj H
    go_enter Tryz.func125,Tryz.ntmps125
    go_wp2_with (first|((with_reducible refine bK (N:=2) rfl ?_);refine bT zR (N:=2) zR (cs := #[.int .u64 bJ,.int .u64 dB]) (t:=179) zG ?_;intro aje hg w15 hbox hb;obtain ⟨HB,qN,ani,anj⟩:=zA4 (ak zB hb) hbox (zg hg zB) (zg hg zB);clear hb hbox hg;obtain ⟨_,_⟩:=zC2 qN.out;obtain ⟨_,_⟩:=zF2 qN.out))
    go_ret
    exact ⟨zS,zB⟩
   ·rw [if_neg c14] at H
    have abW:=decide_eq_false c14
    clear c14
    obtain rfl:=Option.some.inj H
    go_enter Tryz.func125,Tryz.ntmps125
    go_wp2_with (first|((with_reducible refine bK (N:=2) rfl ?_);refine bT zR (N:=2) zR (cs := #[.int .u64 bJ,.int .u64 dB]) (t:=179) zG ?_;intro aje hg w17 hbox hb;obtain ⟨HB,qN,ani,anj⟩:=zA4 (ak zB hb) hbox (zg hg zB) (zg hg zB);clear hb hbox hg;obtain ⟨_,_⟩:=zC2 qN.out;obtain ⟨_,_⟩:=zF2 qN.out))
    go_ret
    exact ⟨zS,zB⟩
def fF.f (bJ dB a1:Int):Option (Int):=if a1≥64 then (if 0≤(wrap64 (a1 - 64)) then (some (Go.bits .and .u64 (shr .u64 bJ (wrap64 (a1 - 64))) 1)) else (none)) else (if 0≤a1 then (some (Go.bits .and .u64 (shr .u64 dB a1) 1)) else (none))
set_option maxHeartbeats 8000000 in
set_option maxRecDepth 100000 in
theorem fF.calls (bJ dB a1 r:Int) (w:World) (h:fF.f bJ dB a1=some r) :
  Calls Tryz.prog 121 #[.agg #[.int .u64 bJ,.int .u64 dB],.int .i64 a1] w fun e w'=>e = .returned (.int .u64 r)∧Below w.heap.size w w':=by
 have xI:=Tryz.underlying179
 have HB:=aj.mk (Below.refl w.heap.size w)
 have H:=h
 clear h
 unfold fF.f at H
 by_cases c3:a1≥64
 ·rw [if_pos c3] at H
  have fQ:=decide_eq_true c3
  clear c3
  obtain ⟨ji4,xU⟩:∃ j_:Int,(wrap64 (a1 - 64))=j_:=⟨_,rfl⟩
  replace H:(if 0≤(ji4) then (some (Go.bits .and .u64 (shr .u64 bJ (ji4)) 1)) else (none))=some r:=by first|(rw [xU] at H;exact H)|(simp only [xU] at H ⊢;exact H)
  have aAQ:(IntKind.i64.wrap (a1 - 64))=ji4:=(bW _).trans xU
  by_cases c5:0≤(ji4)
  ·rw [if_pos c5] at H
   have iM:=eq_true c5
   have abA:=decide_eq_true c5
   clear c5
   obtain ⟨ji6,wZ⟩:∃ j_:Int,(shr .u64 bJ (ji4))=j_:=⟨_,rfl⟩
   replace H:(some (Go.bits .and .u64 (ji6) 1))=some r:=by first|(rw [wZ] at H;exact H)|(simp only [wZ] at H ⊢;exact H)
   have au3:(bJ / 2 ^ min (ji4).toNat 64)=ji6:=wZ
   have au4:(ji4)≤64→(bJ / 2 ^ (ji4).toNat)=ji6:=oZ wZ
   obtain rfl:=Option.some.inj H
   go_enter Tryz.func121,Tryz.ntmps121
   go_wp2_with (first|((with_reducible refine bK (N:=2) rfl ?_);refine bT zR (N:=2) zR (cs := #[.int .u64 bJ,.int .u64 dB]) (t:=179) zG ?_;intro avz hg w7 hbox hb;obtain ⟨HB,ag8,avA,avC⟩:=zA4 (ak zB hb) hbox (zg hg zB) (zg hg zB);clear hb hbox hg;obtain ⟨_,_⟩:=zC2 ag8.out;obtain ⟨_,_⟩:=zF2 ag8.out))
   go_ret
   exact ⟨by first|rfl|(simp [bG,bH] <;> rfl)|(simp only [← xU,← wZ];first|rfl|(simp [bG,bH] <;> rfl))|(simp [*,bG,bH] <;> rfl),zB⟩
  ·rw [if_neg c5] at H
   exact absurd H (by simp)
 ·rw [if_neg c3] at H
  have fQ:=decide_eq_false c3
  clear c3
  by_cases c9:0≤a1
  ·rw [if_pos c9] at H
   have qO:=eq_true c9
   have afu:=decide_eq_true c9
   clear c9
   obtain ⟨dG,jL⟩:∃ j_:Int,(shr .u64 dB a1)=j_:=⟨_,rfl⟩
   replace H:(some (Go.bits .and .u64 (dG) 1))=some r:=by first|(rw [jL] at H;exact H)|(simp only [jL] at H ⊢;exact H)
   have aks:(dB / 2 ^ min a1.toNat 64)=dG:=jL
   have anZ:a1≤64→(dB / 2 ^ a1.toNat)=dG:=oZ jL
   obtain rfl:=Option.some.inj H
   go_enter Tryz.func121,Tryz.ntmps121
   go_wp2_with (first|((with_reducible refine bK (N:=2) rfl ?_);refine bT zR (N:=2) zR (cs := #[.int .u64 bJ,.int .u64 dB]) (t:=179) zG ?_;intro avz hg w11 hbox hb;obtain ⟨HB,ag8,avA,avC⟩:=zA4 (ak zB hb) hbox (zg hg zB) (zg hg zB);clear hb hbox hg;obtain ⟨_,_⟩:=zC2 ag8.out;obtain ⟨_,_⟩:=zF2 ag8.out))
   go_ret
   exact ⟨by first|rfl|(simp [bG,bH] <;> rfl)|(simp only [← jL];first|rfl|(simp [bG,bH] <;> rfl))|(simp [*,bG,bH] <;> rfl),zB⟩
  ·rw [if_neg c9] at H
   exact absurd H (by simp)
end Go.Proofs.YtpondkggmcmpfaaGreatDoor.QA
