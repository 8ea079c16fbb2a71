/- Joined by wip/tools/bundle.py out of: QAx9 QAx10 QAx14 QAx15 QAx16 QAx21 QAx22 QAx23. -/
import Derived.Test.YtpondkggmcmpfaaGreatDoorBPlanReaches0
import Derived.Test.YtpondkggmcmpfaaGreatDoorBPlanReaches1
import Derived.Test.YtpondkggmcmpfaaGreatDoorBPlanReaches2
namespace Go.Proofs.YtpondkggmcmpfaaGreatDoor.QA
open Go.Proofs.YtpondkggmcmpfaaGreatDoor.T
open Go.RowKit Go.Proofs.YtpondkggmcmpfaaGreatDoorW.PrintWords Go.Proofs.YtpondkggmcmpfaaGreatDoorW.PrintLast Go.Proofs.YtpondkggmcmpfaaGreatDoorW.PrintMore
attribute [local go_sem] dV dQ dR eP eX
set_option linter.unusedVariables false
set_option linter.unusedSimpArgs false
def dD.j0:Nat→Bool→Int→Int→Bool→Option (Int)
 | 0,_,_,_,_=>none
 | k+1,x9,x10,x11,x59=>if x59=true then ((cZ.f k x10 x11 x9).bind fun apI=>(some apI)) else ((cZ.f k (IntKind.u64.wrap (x10+(oO x11 1 0))) (oN x11 1 0) x9).bind fun apJ=>(some apJ))
def dD.f (k:Nat) (a0 a1 a2:Int):Option (Int):=if (mx 0 a2)≥128 then (some 0) else ((jW.f a0 a1).bind fun lM=>(if (mx 0 a2)=0 then ((cZ.f k lM.1 lM.2.1 lM.2.2).bind fun akv=>(some akv)) else ((nN.f lM.1 lM.2.1 (mx 0 a2)).bind fun wJ=>((nN.f lM.1 lM.2.1 (wrap64 ((mx 0 a2) - 1))).bind fun amW=>(if (Go.bits .and .u64 amW.2 1)=0 then (dD.j0 k lM.2.2 wJ.1 wJ.2 true) else (if lM.2.2=true then ((qU.f lM.1 lM.2.1 (wrap64 ((mx 0 a2) - 1))).bind fun ahP=>(dD.j0 k lM.2.2 wJ.1 wJ.2 ahP)) else (dD.j0 k lM.2.2 wJ.1 wJ.2 false)))))))
theorem dD.iT:∀ k,(∀ y0 y1 y2 y3,LeO (dD.j0 k y0 y1 y2 y3) (dD.j0 (k+1) y0 y1 y2 y3))
 | 0=>fun _ _ _ _ r h=>by simp [dD.j0] at h
 | k+1=>by
  have ih0:=dD.iT k
  ·intro y0 y1 y2 y3
   unfold dD.j0
   repeat' (with_reducible first|exact ih0 _ _ _ _|exact cZ.mono _ _ _ _|exact zM|refine LeO.ite ?_ ?_|refine LeO.bind ?_ (fun _ => ?_))
theorem dD.mono:∀ a0 a1 a2 k,LeO (dD.f k a0 a1 a2) (dD.f (k+1) a0 a1 a2):=by
 intro a0 a1 a2 k
 have ih0:=dD.iT k
 unfold dD.f
 repeat' (with_reducible first|exact ih0 _ _ _ _|exact cZ.mono _ _ _ _|exact zM|refine LeO.ite ?_ ?_|refine LeO.bind ?_ (fun _ => ?_))
set_option maxHeartbeats 8000000 in
set_option maxRecDepth 100000 in
theorem dD.calls (k:Nat) (a0 a1 a2 r:Int) (w:World) (h:dD.f k a0 a1 a2=some r) :
  Calls Tryz.prog 176 #[.int .i64 a0,.int .i64 a1,.int .i64 a2] w fun e w'=>e = .returned (.int .i64 r)∧Below w.heap.size w w':=by
 have HB:=aj.mk (Below.refl w.heap.size w)
 have H:=h
 clear h
 unfold dD.f at H
 obtain ⟨ji4,xM⟩:∃ j_:Int,(mx 0 a2)=j_:=⟨_,rfl⟩
 replace H:(if (ji4)≥128 then (some 0) else ((jW.f a0 a1).bind fun lM=>(if (ji4)=0 then ((cZ.f k lM.1 lM.2.1 lM.2.2).bind fun akv=>(some akv)) else ((nN.f lM.1 lM.2.1 (ji4)).bind fun wJ=>((nN.f lM.1 lM.2.1 (wrap64 ((ji4) - 1))).bind fun amW=>(if (Go.bits .and .u64 amW.2 1)=0 then (dD.j0 k lM.2.2 wJ.1 wJ.2 true) else (if lM.2.2=true then ((qU.f lM.1 lM.2.1 (wrap64 ((ji4) - 1))).bind fun ahP=>(dD.j0 k lM.2.2 wJ.1 wJ.2 ahP)) else (dD.j0 k lM.2.2 wJ.1 wJ.2 false))))))))=some r:=by first|(rw [xM] at H;exact H)|(simp only [xM] at H ⊢;exact H)
 (try (have aqI:0≤ji4:=by (rw [← xM];unfold mx;(repeat' split) <;> omega)))
 (try (have aAf:0≤ji4:=by omega))
 have aAg:(if 0 < a2 then a2 else 0)=ji4:=xM
 by_cases c5:(ji4)≥128
 ·rw [if_pos c5] at H
  have iL:=decide_eq_true c5
  clear c5
  obtain rfl:=Option.some.inj H
  go_enter Tryz.func176,Tryz.ntmps176
  go_wp2
  go_ret
  exact ⟨by first|rfl|(simp [bG,bH] <;> rfl)|(simp only [← xM];first|rfl|(simp [bG,bH] <;> rfl))|(simp [*,bG,bH] <;> rfl),zB⟩
 ·rw [if_neg c5] at H
  have iL:=decide_eq_false c5
  clear c5
  replace H:=zO H
  obtain ⟨⟨t141,adb,t143⟩,A6,H⟩:=H
  try dsimp only at H
  by_cases c7:(ji4)=0
  ·rw [if_pos c7] at H
   have jr:((ji4) == 0)=true:=beq_iff_eq.mpr c7
   have abd:((ji4) != 0)=false:=bne_eq_false_iff_eq.mpr c7
   clear c7
   replace H:=zO H
   obtain ⟨akv,A8,H⟩:=H
   try dsimp only at H
   obtain rfl:=Option.some.inj H
   go_enter Tryz.func176,Tryz.ntmps176
   go_wp2_with (first|((with_reducible refine aA (f:=154) rfl ?_);refine aH (some 22) rfl rfl Tryz.func154 (by kernel_rfl) rfl #[.int .i64 a0,.int .i64 a1] rfl zL ?_;(with_reducible refine (jW.calls a0 a1 t141 adb t143 _ A6.out).mono ?_);rintro e w' ⟨rfl,⟨nd,rfl⟩⟩;refine ⟨_,rfl,?_⟩)|((with_reducible refine aA (f:=156) rfl ?_);refine aH (some 31) rfl rfl Tryz.func156 (by kernel_rfl) rfl #[.int .u64 t141,.int .u64 adb,.bool t143] rfl zL ?_;(with_reducible refine (cZ.calls k t141 adb t143 akv _ A8.out).mono ?_);rintro e w' ⟨rfl,⟨nd,rfl⟩⟩;refine ⟨_,rfl,?_⟩))
   go_ret
   exact ⟨by first|rfl|(simp [bG,bH] <;> rfl)|(simp only [← xM];first|rfl|(simp [bG,bH] <;> rfl))|(simp [*,bG,bH] <;> rfl),zB⟩
  ·rw [if_neg c7] at H
   have jr:((ji4) == 0)=false:=beq_eq_false_iff_ne.mpr c7
   have abd:((ji4) != 0)=true:=bne_iff_ne.mpr c7
   replace H:=zO H
   obtain ⟨⟨t145,t146⟩,A9,H⟩:=H
   try dsimp only at H
   replace H:=zO H
   obtain ⟨⟨av3,t148⟩,A10,H⟩:=H
   try dsimp only at H
   have apK:=aj.mk H
   clear H
   go_enter Tryz.func176,Tryz.ntmps176
   go_upto_region 9 with (first|((with_reducible refine aA (f:=154) rfl ?_);refine aH (some 22) rfl rfl Tryz.func154 (by kernel_rfl) rfl #[.int .i64 a0,.int .i64 a1] rfl zL ?_;(with_reducible refine (jW.calls a0 a1 t141 adb t143 _ A6.out).mono ?_);rintro e w' ⟨rfl,⟨nd,rfl⟩⟩;refine ⟨_,rfl,?_⟩)|((with_reducible refine aA (f:=188) rfl ?_);refine aH (some 36) rfl rfl Tryz.func188 (by kernel_rfl) rfl #[.int .u64 t141,.int .u64 adb,.int .i64 ji4] rfl (by (try simp only [List.map_toArray,List.map_cons,List.map_nil]);first|done|(simp only [xM];rfl)|(simp only [Int.tdiv_eq_ediv_of_nonneg aqI];rfl)|rfl|(simp only [List.length_drop,List.length_take];rfl)) ?_;(with_reducible refine (nN.calls t141 adb ji4 t145 t146 _ A9.out).mono ?_);rintro e w' ⟨rfl,⟨nd,rfl⟩⟩;refine ⟨_,rfl,?_⟩)|((with_reducible refine aA (f:=188) rfl ?_);refine aH (some 44) rfl rfl Tryz.func188 (by kernel_rfl) rfl #[.int .u64 t141,.int .u64 adb,.int .i64 (wrap64 ((ji4) - 1))] rfl (by (try simp only [List.map_toArray,List.map_cons,List.map_nil]);first|done|(simp only [xM];rfl)|(simp only [Int.tdiv_eq_ediv_of_nonneg aqI];rfl)|rfl|(simp only [List.length_drop,List.length_take];rfl)) ?_;(with_reducible refine (nN.calls t141 adb (wrap64 ((ji4) - 1)) av3 t148 _ A10.out).mono ?_);rintro e w' ⟨rfl,⟨nd,rfl⟩⟩;refine ⟨_,rfl,?_⟩))
   (try simp only [Act.put,List.setIfInBounds_toArray,List.set_cons_zero,List.set_cons_succ])
   go_cut [59] (fun v59 wc=>∃ (kq:Nat) (agU:Bool),v59 = .bool agU∧aj (dD.j0 kq t143 t145 t146 agU=some r)∧aj (kq≤k)∧aj (Below w.heap.size w wc))
   case first =>
    have H:=apK.out
    clear apK
    by_cases c12:(Go.bits .and .u64 t148 1)=0
    ·rw [if_pos c12] at H
     have aaY:((Go.bits .and .u64 t148 1) == 0)=true:=beq_iff_eq.mpr c12
     have auK:((Go.bits .and .u64 t148 1) != 0)=false:=bne_eq_false_iff_eq.mpr c12
     clear c12
     (first|rw [aaY]|(simp only [bZ,dA];rw [aaY])|skip)
     have H':=aj.mk H
     clear H
     go_wp2
     go_meet
     case rel=>exact ⟨_,(true),zT,H',⟨by first|omega|exact Nat.le_refl _⟩,⟨zB⟩⟩
    ·rw [if_neg c12] at H
     have aaY:((Go.bits .and .u64 t148 1) == 0)=false:=beq_eq_false_iff_ne.mpr c12
     have auK:((Go.bits .and .u64 t148 1) != 0)=true:=bne_iff_ne.mpr c12
     (first|rw [aaY]|(simp only [bZ,dA];rw [aaY])|skip)
     by_cases c13:t143=true
     ·subst c13
      rw [if_pos rfl] at H;try dsimp only at H
      replace H:=zO H
      obtain ⟨ahP,A14,H⟩:=H
      try dsimp only at H
      have H':=aj.mk H
      clear H
      go_wp2_with (first|(go_at_call 189;(with_reducible refine (qU.calls t141 adb (wrap64 ((ji4) - 1)) ahP _ A14.out).mono ?_);rintro e w' ⟨rfl,⟨nd,rfl⟩⟩))
      go_meet
      case rel=>exact ⟨_,(ahP),zT,H',⟨by first|omega|exact Nat.le_refl _⟩,⟨zB⟩⟩
     ·replace c13:=Bool.eq_false_iff.mpr c13
      subst c13
      rw [if_neg (show ¬ (false=true) by decide)] at H;try dsimp only at H
      have H':=aj.mk H
      clear H
      go_wp2
      go_meet
      case rel=>exact ⟨_,(false),zT,H',⟨by first|omega|exact Nat.le_refl _⟩,⟨zB⟩⟩
   case rest =>
    clear apK
    obtain ⟨kq,agU,rfl,HA,aA7,HB⟩:=hcut
    cases kq with
    | zero=>exact absurd HA.out (by simp [dD.j0])
    | succ asQ =>
     have H:=HA.out
     clear HA
     simp only [dD.j0] at H
     by_cases c15:agU=true
     ·subst c15
      rw [if_pos rfl] at H;try dsimp only at H
      replace H:=zO H
      obtain ⟨apI,A16,H⟩:=H
      try dsimp only at H
      obtain rfl:=Option.some.inj H
      go_wp2_with (first|((with_reducible refine aA (f:=156) rfl ?_);refine aH (some 63) rfl rfl Tryz.func156 (by kernel_rfl) rfl #[.int .u64 t145,.int .u64 t146,.bool t143] rfl zL ?_;(with_reducible refine (cZ.calls asQ t145 t146 t143 apI _ A16.out).mono ?_);rintro e w' ⟨rfl,⟨nd,rfl⟩⟩;refine ⟨_,rfl,?_⟩))
      go_ret
      exact ⟨by first|rfl|(simp [bG,bH] <;> rfl)|(simp only [← xM];first|rfl|(simp [bG,bH] <;> rfl))|(simp [*,bG,bH] <;> rfl),zB⟩
     ·replace c15:=Bool.eq_false_iff.mpr c15
      subst c15
      rw [if_neg (show ¬ (false=true) by decide)] at H;try dsimp only at H
      replace H:=zO H
      obtain ⟨apJ,A17,H⟩:=H
      try dsimp only at H
      obtain rfl:=Option.some.inj H
      go_wp2_with (first|((with_reducible refine aA (f:=156) rfl ?_);refine aH (some 74) rfl rfl Tryz.func156 (by kernel_rfl) rfl #[.int .u64 (IntKind.u64.wrap (t145+(oO t146 1 0))),.int .u64 (oN t146 1 0),.bool t143] rfl zL ?_;(with_reducible refine (cZ.calls asQ (IntKind.u64.wrap (t145+(oO t146 1 0))) (oN t146 1 0) t143 apJ _ A17.out).mono ?_);rintro e w' ⟨rfl,⟨nd,rfl⟩⟩;refine ⟨_,rfl,?_⟩))
      go_ret
      exact ⟨by first|rfl|(simp [bG,bH] <;> rfl)|(simp only [← xM];first|rfl|(simp [bG,bH] <;> rfl))|(simp [*,bG,bH] <;> rfl),zB⟩
def dY.l0:Nat→Int→Int→Int→Int→Int→Option (Int)
 | 0,_,_,_,_,_=>none
 | k+1,x5,x6,x7,x8,x9=>if x9≤30 then ((aZ.f k x7 x5 (wrap64 ((wrap64 ((wrap64 (2*x9))*(wrap64 ((wrap64 (2*x9))+1))))*1099511627776))).bind fun ahQ=>(dY.l0 k x5 (wrap64 (x6+(wrap64 ((wrap64 (-x8))*ahQ)))) ahQ (wrap64 (-x8)) (wrap64 (x9+1)))) else (some x6)
def dY.f (k:Nat) (a0 a1:Int):Option (Int):=(qW.f a0).bind fun t152=>((aZ.f k 10851744800547 t152 a1).bind fun akw=>((aZ.f k akw t152 a1).bind fun t154=>(dY.l0 k t154 1099511627776 1099511627776 1 1)))
theorem dY.iT:∀ k,(∀ y0 y1 y2 y3 y4,LeO (dY.l0 k y0 y1 y2 y3 y4) (dY.l0 (k+1) y0 y1 y2 y3 y4))
 | 0=>fun _ _ _ _ _ r h=>by simp [dY.l0] at h
 | k+1=>by
  have ih0:=dY.iT k
  ·intro y0 y1 y2 y3 y4
   unfold dY.l0
   repeat' (with_reducible first|exact ih0 _ _ _ _ _|exact aZ.mono _ _ _ _|exact zM|refine LeO.ite ?_ ?_|refine LeO.bind ?_ (fun _ => ?_))
theorem dY.mono:∀ a0 a1 k,LeO (dY.f k a0 a1) (dY.f (k+1) a0 a1):=by
 intro a0 a1 k
 have ih0:=dY.iT k
 unfold dY.f
 repeat' (with_reducible first|exact ih0 _ _ _ _ _|exact aZ.mono _ _ _ _|exact zM|refine LeO.ite ?_ ?_|refine LeO.bind ?_ (fun _ => ?_))
set_option maxHeartbeats 8000000 in
set_option maxRecDepth 100000 in
theorem dY.calls (k:Nat) (a0 a1 r:Int) (w:World) (h:dY.f k a0 a1=some r) :
  Calls Tryz.prog 177 #[.int .i64 a0,.int .i64 a1] w fun e w'=>e = .returned (.int .i64 r)∧Below w.heap.size w w':=by
 have HB:=aj.mk (Below.refl w.heap.size w)
 have H:=h
 clear h
 unfold dY.f at H
 replace H:=zO H
 obtain ⟨t152,A3,H⟩:=H
 try dsimp only at H
 replace H:=zO H
 obtain ⟨akw,A4,H⟩:=H
 try dsimp only at H
 replace H:=zO H
 obtain ⟨t154,A5,H⟩:=H
 try dsimp only at H
 have H':=aj.mk H
 clear H
 go_enter Tryz.func177,Tryz.ntmps177
 go_wp2_with (first|((with_reducible refine aA (f:=175) rfl ?_);refine aH (some 11) rfl rfl Tryz.func175 (by kernel_rfl) rfl #[.int .i64 a0] rfl zL ?_;(with_reducible refine (qW.calls a0 t152 _ A3.out).mono ?_);rintro e w6 ⟨rfl,hb⟩;refine ⟨_,rfl,?_⟩;replace HB:=aj.mk (ak zB hb);(try clear hb))|((with_reducible refine aA (f:=130) rfl ?_);refine aH (some 14) rfl rfl Tryz.func130 (by kernel_rfl) rfl #[.int .i64 10851744800547,.int .i64 t152,.int .i64 a1] rfl zL ?_;(with_reducible refine (aZ.calls k 10851744800547 t152 a1 akw _ A4.out).mono ?_);rintro e w' ⟨rfl,⟨nd,rfl⟩⟩;refine ⟨_,rfl,?_⟩)|((with_reducible refine aA (f:=130) rfl ?_);refine aH (some 17) rfl rfl Tryz.func130 (by kernel_rfl) rfl #[.int .i64 akw,.int .i64 t152,.int .i64 a1] rfl zL ?_;(with_reducible refine (aZ.calls k akw t152 a1 t154 _ A5.out).mono ?_);rintro e w' ⟨rfl,⟨nd,rfl⟩⟩;refine ⟨_,rfl,?_⟩))
 go_loopg [6,7,8,9] k (fun kq v6 v7 v8 v9 w'=>∃ (o8:Int) (akx:Int) (gY:Int) (rY:Int),v6 = .int .i64 o8∧v7 = .int .i64 akx∧v8 = .int .i64 gY∧v9 = .int .i64 rY∧aj (dY.l0 kq t154 o8 akx gY rY=some r)∧aj (kq≤k)∧aj (Below w.heap.size w w'))
 case atStart=>exact ⟨(1099511627776),(1099511627776),(1),(1),zT,zT,zT,zT,H',⟨Nat.le_refl _⟩,⟨zB⟩⟩
 case round =>
  clear H'
  obtain ⟨o8,akx,gY,rY,rfl,rfl,rfl,rfl,HA,HK1,HB⟩:=hrel
  cases gk with
  | zero=>exact absurd HA.out (by simp [dY.l0])
  | succ k1 =>
   have H:=HA.out
   clear HA
   simp only [dY.l0] at H
   by_cases c7:rY≤30
   ·rw [if_pos c7] at H
    have jr:=decide_eq_true c7
    clear c7
    replace H:=zO H
    obtain ⟨ahQ,A8,H⟩:=H
    try dsimp only at H
    have H':=aj.mk H
    clear H
    go_wp2_with (first|((with_reducible refine aA (f:=130) rfl ?_);refine aH (some 33) rfl rfl Tryz.func130 (by kernel_rfl) rfl #[.int .i64 akx,.int .i64 t154,.int .i64 (wrap64 ((wrap64 ((wrap64 (2*rY))*(wrap64 ((wrap64 (2*rY))+1))))*1099511627776))] rfl zL ?_;(with_reducible refine (aZ.calls k1 akx t154 (wrap64 ((wrap64 ((wrap64 (2*rY))*(wrap64 ((wrap64 (2*rY))+1))))*1099511627776)) ahQ _ A8.out).mono ?_);rintro e w' ⟨rfl,⟨nd,rfl⟩⟩;refine ⟨_,rfl,?_⟩))
    go_roundg k1
    case measure=>have:=HK1.out;omega
    case rel=>exact ⟨(wrap64 (o8+(wrap64 ((wrap64 (-gY))*ahQ)))),(ahQ),(wrap64 (-gY)),(wrap64 (rY+1)),zT,zT,zT,zT,H',⟨by have:=HK1.out;omega⟩,⟨zB⟩⟩
   ·rw [if_neg c7] at H
    have jr:=decide_eq_false c7
    clear c7
    obtain rfl:=Option.some.inj H
    go_wp2
    go_ret
    exact ⟨zS,zB⟩
end Go.Proofs.YtpondkggmcmpfaaGreatDoor.QA
namespace Go.Proofs.YtpondkggmcmpfaaGreatDoor.QA
open Go.Proofs.YtpondkggmcmpfaaGreatDoor.T
open Go.RowKit Go.Proofs.YtpondkggmcmpfaaGreatDoorW.PrintWords Go.Proofs.YtpondkggmcmpfaaGreatDoorW.PrintLast Go.Proofs.YtpondkggmcmpfaaGreatDoorW.PrintMore
attribute [local go_sem] dV dQ dR eP eX
set_option linter.unusedVariables false
set_option linter.unusedSimpArgs false
def dZ.j0:Nat→Int→Int→Bool→Option (Int)
 | 0,_,_,_=>none
 | k+1,x0,x1,x15=>if x15=true then (some 0) else ((dY.f k x0 x1).bind fun aky=>((dY.f k x0 (wrap64 (3*x1))).bind fun t159=>((dD.f k aky t159 40).bind fun t160=>((mg.f t160 10).bind fun apL=>(some apL)))))
def dZ.f (k:Nat) (a0 a1:Int):Option (Int):=(vV.f a0 a1).bind fun t156=>(if t156=true then ((qW.f a0).bind fun t157=>(dZ.j0 k a0 a1 (decide (t157≥(wrap64 (3*a1)))))) else (dZ.j0 k a0 a1 true))
theorem dZ.iT:∀ k,(∀ y0 y1 y2,LeO (dZ.j0 k y0 y1 y2) (dZ.j0 (k+1) y0 y1 y2))
 | 0=>fun _ _ _ r h=>by simp [dZ.j0] at h
 | k+1=>by
  have ih0:=dZ.iT k
  ·intro y0 y1 y2
   unfold dZ.j0
   repeat' (with_reducible first|exact ih0 _ _ _|exact dY.mono _ _ _|exact dD.mono _ _ _ _|exact zM|refine LeO.ite ?_ ?_|refine LeO.bind ?_ (fun _ => ?_))
theorem dZ.mono:∀ a0 a1 k,LeO (dZ.f k a0 a1) (dZ.f (k+1) a0 a1):=by
 intro a0 a1 k
 have ih0:=dZ.iT k
 unfold dZ.f
 repeat' (with_reducible first|exact ih0 _ _ _|exact dY.mono _ _ _|exact dD.mono _ _ _ _|exact zM|refine LeO.ite ?_ ?_|refine LeO.bind ?_ (fun _ => ?_))
set_option maxHeartbeats 8000000 in
set_option maxRecDepth 100000 in
theorem dZ.calls (k:Nat) (a0 a1 r:Int) (w:World) (h:dZ.f k a0 a1=some r) :
  Calls Tryz.prog 153 #[.int .i64 a0,.int .i64 a1] w fun e w'=>e = .returned (.int .i64 r)∧Below w.heap.size w w':=by
 have HB:=aj.mk (Below.refl w.heap.size w)
 have H:=h
 clear h
 unfold dZ.f at H
 have HC3:=aj.mk H
 clear H
 go_enter Tryz.func153,Tryz.ntmps153
 go_upto_region 1 with (fail)
 go_cut [15] (fun v15 wc=>∃ (kq:Nat) (ai3:Bool),v15 = .bool ai3∧aj (dZ.j0 kq a0 a1 ai3=some r)∧aj (kq≤k)∧aj (Below w.heap.size w wc))
 case first =>
  have H:=HC3.out
  clear HC3
  replace H:=zO H
  obtain ⟨t156,A4,H⟩:=H
  try dsimp only at H
  by_cases c5:t156=true
  ·subst c5
   rw [if_pos rfl] at H;try dsimp only at H
   replace H:=zO H
   obtain ⟨t157,A6,H⟩:=H
   try dsimp only at H
   have H':=aj.mk H
   clear H
   go_wp2_with (first|((with_reducible refine aA (f:=174) rfl ?_);refine aH (some 7) rfl rfl Tryz.func174 (by kernel_rfl) rfl #[.int .i64 a0,.int .i64 a1] rfl zL ?_;(with_reducible refine (vV.calls a0 a1 true _ A4.out).mono ?_);rintro e w' ⟨rfl,⟨nd,rfl⟩⟩;refine ⟨_,rfl,?_⟩)|(go_at_call 175;(with_reducible refine (qW.calls a0 t157 _ A6.out).mono ?_);rintro e w7 ⟨rfl,hb⟩;replace HB:=aj.mk (ak zB hb);(try clear hb)))
   go_meet
   case rel=>exact ⟨_,(decide (t157≥(wrap64 (3*a1)))),zT,H',⟨by first|omega|exact Nat.le_refl _⟩,⟨zB⟩⟩
  ·replace c5:=Bool.eq_false_iff.mpr c5
   subst c5
   rw [if_neg (show ¬ (false=true) by decide)] at H;try dsimp only at H
   have H':=aj.mk H
   clear H
   go_wp2_with (first|((with_reducible refine aA (f:=174) rfl ?_);refine aH (some 7) rfl rfl Tryz.func174 (by kernel_rfl) rfl #[.int .i64 a0,.int .i64 a1] rfl zL ?_;(with_reducible refine (vV.calls a0 a1 false _ A4.out).mono ?_);rintro e w' ⟨rfl,⟨nd,rfl⟩⟩;refine ⟨_,rfl,?_⟩))
   go_meet
   case rel=>exact ⟨_,(true),zT,H',⟨by first|omega|exact Nat.le_refl _⟩,⟨zB⟩⟩
 case rest =>
  clear HC3
  obtain ⟨kq,ai3,rfl,HA,HJ2,HB⟩:=hcut
  cases kq with
  | zero=>exact absurd HA.out (by simp [dZ.j0])
  | succ kj2 =>
   have H:=HA.out
   clear HA
   simp only [dZ.j0] at H
   by_cases c8:ai3=true
   ·subst c8
    rw [if_pos rfl] at H;try dsimp only at H
    obtain rfl:=Option.some.inj H
    go_wp2
    go_ret
    exact ⟨zS,zB⟩
   ·replace c8:=Bool.eq_false_iff.mpr c8
    subst c8
    rw [if_neg (show ¬ (false=true) by decide)] at H;try dsimp only at H
    replace H:=zO H
    obtain ⟨aky,A9,H⟩:=H
    try dsimp only at H
    replace H:=zO H
    obtain ⟨t159,A10,H⟩:=H
    try dsimp only at H
    replace H:=zO H
    obtain ⟨t160,A11,H⟩:=H
    try dsimp only at H
    replace H:=zO H
    obtain ⟨apL,A12,H⟩:=H
    try dsimp only at H
    obtain rfl:=Option.some.inj H
    go_wp2_with (first|((with_reducible refine aA (f:=177) rfl ?_);refine aH (some 18) rfl rfl Tryz.func177 (by kernel_rfl) rfl #[.int .i64 a0,.int .i64 a1] rfl zL ?_;(with_reducible refine (dY.calls kj2 a0 a1 aky _ A9.out).mono ?_);rintro e w13 ⟨rfl,hb⟩;refine ⟨_,rfl,?_⟩;replace HB:=aj.mk (ak zB hb);(try clear hb))|((with_reducible refine aA (f:=177) rfl ?_);refine aH (some 22) rfl rfl Tryz.func177 (by kernel_rfl) rfl #[.int .i64 a0,.int .i64 (wrap64 (3*a1))] rfl zL ?_;(with_reducible refine (dY.calls kj2 a0 (wrap64 (3*a1)) t159 _ A10.out).mono ?_);rintro e w14 ⟨rfl,hb⟩;refine ⟨_,rfl,?_⟩;replace HB:=aj.mk (ak zB hb);(try clear hb))|((with_reducible refine aA (f:=176) rfl ?_);refine aH (some 23) rfl rfl Tryz.func176 (by kernel_rfl) rfl #[.int .i64 aky,.int .i64 t159,.int .i64 40] rfl zL ?_;(with_reducible refine (dD.calls kj2 aky t159 40 t160 _ A11.out).mono ?_);rintro e w15 ⟨rfl,hb⟩;refine ⟨_,rfl,?_⟩;replace HB:=aj.mk (ak zB hb);(try clear hb))|((with_reducible refine aA (f:=100) rfl ?_);refine aH (some 24) rfl rfl Tryz.func100 (by kernel_rfl) rfl #[.int .i64 t160,.int .i64 10] rfl zL ?_;(with_reducible refine (mg.calls t160 10 apL _ A12.out).mono ?_);rintro e w' ⟨rfl,⟨nd,rfl⟩⟩;refine ⟨_,rfl,?_⟩))
    go_ret
    exact ⟨zS,zB⟩
def mY.f (k:Nat) (a0 a1 a2 a3 a4:Int):Option (Int):=if a0=0 then ((aZ.f k (wrap64 ((mn (wrap64 ((wrap64 (a3+1))*a1)) (wrap64 ((wrap64 (a4+1))*a2))) - (mx (wrap64 (a3*a1)) (wrap64 (a4*a2))))) 1073741824 a1).bind fun t162=>(some t162)) else (if a0=1 then ((fH.f k (wrap64 ((wrap64 ((wrap64 ((wrap64 (2*a2))*a4)) - (wrap64 ((wrap64 ((wrap64 (2*a3))+1))*a1))))+a2)) (wrap64 (2*(mx a1 a2)))).bind fun akz=>(some akz)) else ((dZ.f k (wrap64 ((wrap64 ((wrap64 ((wrap64 (2*a2))*a4)) - (wrap64 ((wrap64 ((wrap64 (2*a3))+1))*a1))))+a2)) (wrap64 (2*(mx a1 a2)))).bind fun t164=>(some t164)))
theorem mY.mono:∀ a0 a1 a2 a3 a4 k,LeO (mY.f k a0 a1 a2 a3 a4) (mY.f (k+1) a0 a1 a2 a3 a4):=by
 intro a0 a1 a2 a3 a4 k
 unfold mY.f
 repeat' (with_reducible first|exact fH.mono _ _ _|exact dZ.mono _ _ _|exact aZ.mono _ _ _ _|exact zM|refine LeO.ite ?_ ?_|refine LeO.bind ?_ (fun _ => ?_))
set_option maxHeartbeats 8000000 in
set_option maxRecDepth 100000 in
theorem mY.calls (k:Nat) (a0 a1 a2 a3 a4 r:Int) (w:World) (h:mY.f k a0 a1 a2 a3 a4=some r) :
  Calls Tryz.prog 129 #[.int .i64 a0,.int .i64 a1,.int .i64 a2,.int .i64 a3,.int .i64 a4] w fun e w'=>e = .returned (.int .i64 r)∧Below w.heap.size w w':=by
 have HB:=aj.mk (Below.refl w.heap.size w)
 have H:=h
 clear h
 unfold mY.f at H
 by_cases c6:a0=0
 ·rw [if_pos c6] at H
  have iw:(a0 == 0)=true:=beq_iff_eq.mpr c6
  have um:(a0 != 0)=false:=bne_eq_false_iff_eq.mpr c6
  clear c6
  obtain ⟨ji7,wW⟩:∃ j_:Int,(mn (wrap64 ((wrap64 (a3+1))*a1)) (wrap64 ((wrap64 (a4+1))*a2)))=j_:=⟨_,rfl⟩
  replace H:((aZ.f k (wrap64 ((ji7) - (mx (wrap64 (a3*a1)) (wrap64 (a4*a2))))) 1073741824 a1).bind fun t162=>(some t162))=some r:=by first|(rw [wW] at H;exact H)|(simp only [wW] at H ⊢;exact H)
  have auI:(if (wrap64 ((wrap64 (a4+1))*a2)) < (wrap64 ((wrap64 (a3+1))*a1)) then (wrap64 ((wrap64 (a4+1))*a2)) else (wrap64 ((wrap64 (a3+1))*a1)))=ji7:=wW
  obtain ⟨ji8,pJ⟩:∃ j_:Int,(mx (wrap64 (a3*a1)) (wrap64 (a4*a2)))=j_:=⟨_,rfl⟩
  replace H:((aZ.f k (wrap64 ((ji7) - (ji8))) 1073741824 a1).bind fun t162=>(some t162))=some r:=by first|(rw [pJ] at H;exact H)|(simp only [pJ] at H ⊢;exact H)
  have aqF:(if (wrap64 (a3*a1)) < (wrap64 (a4*a2)) then (wrap64 (a4*a2)) else (wrap64 (a3*a1)))=ji8:=pJ
  replace H:=zO H
  obtain ⟨t162,A9,H⟩:=H
  try dsimp only at H
  obtain rfl:=Option.some.inj H
  go_enter Tryz.func129,Tryz.ntmps129
  go_wp2_with (first|((with_reducible refine aA (f:=130) rfl ?_);refine aH (some 35) rfl rfl Tryz.func130 (by kernel_rfl) rfl #[.int .i64 (wrap64 ((ji7) - (ji8))),.int .i64 1073741824,.int .i64 a1] rfl (by (try simp only [List.map_toArray,List.map_cons,List.map_nil]);first|done|(simp only [wW,pJ];rfl)|rfl|(simp only [List.length_drop,List.length_take];rfl)) ?_;(with_reducible refine (aZ.calls k (wrap64 ((ji7) - (ji8))) 1073741824 a1 t162 _ A9.out).mono ?_);rintro e w' ⟨rfl,⟨nd,rfl⟩⟩;refine ⟨_,rfl,?_⟩))
  go_ret
  exact ⟨by first|rfl|(simp [bG,bH] <;> rfl)|(simp only [← wW,← pJ];first|rfl|(simp [bG,bH] <;> rfl))|(simp [*,bG,bH] <;> rfl),zB⟩
 ·rw [if_neg c6] at H
  have iw:(a0 == 0)=false:=beq_eq_false_iff_ne.mpr c6
  have um:(a0 != 0)=true:=bne_iff_ne.mpr c6
  obtain ⟨dF,jJ⟩:∃ j_:Int,(mx a1 a2)=j_:=⟨_,rfl⟩
  replace H:(if a0=1 then ((fH.f k (wrap64 ((wrap64 ((wrap64 ((wrap64 (2*a2))*a4)) - (wrap64 ((wrap64 ((wrap64 (2*a3))+1))*a1))))+a2)) (wrap64 (2*(dF)))).bind fun akz=>(some akz)) else ((dZ.f k (wrap64 ((wrap64 ((wrap64 ((wrap64 (2*a2))*a4)) - (wrap64 ((wrap64 ((wrap64 (2*a3))+1))*a1))))+a2)) (wrap64 (2*(dF)))).bind fun t164=>(some t164)))=some r:=by first|(rw [jJ] at H;exact H)|(simp only [jJ] at H ⊢;exact H)
  have akj:(if a1 < a2 then a2 else a1)=dF:=jJ
  by_cases c11:a0=1
  ·rw [if_pos c11] at H
   have iO:(a0 == 1)=true:=beq_iff_eq.mpr c11
   have yE:(a0 != 1)=false:=bne_eq_false_iff_eq.mpr c11
   clear c11
   replace H:=zO H
   obtain ⟨akz,A12,H⟩:=H
   try dsimp only at H
   obtain rfl:=Option.some.inj H
   go_enter Tryz.func129,Tryz.ntmps129
   go_wp2_with (first|((with_reducible refine aA (f:=108) rfl ?_);refine aH (some 56) rfl rfl Tryz.func108 (by kernel_rfl) rfl #[.int .i64 (wrap64 ((wrap64 ((wrap64 ((wrap64 (2*a2))*a4)) - (wrap64 ((wrap64 ((wrap64 (2*a3))+1))*a1))))+a2)),.int .i64 (wrap64 (2*(dF)))] rfl (by (try simp only [List.map_toArray,List.map_cons,List.map_nil]);first|done|(simp only [jJ];rfl)|(simp only [Int.tdiv_eq_ediv_of_nonneg hji10l];rfl)|rfl|(simp only [List.length_drop,List.length_take];rfl)) ?_;(with_reducible refine (fH.calls k (wrap64 ((wrap64 ((wrap64 ((wrap64 (2*a2))*a4)) - (wrap64 ((wrap64 ((wrap64 (2*a3))+1))*a1))))+a2)) (wrap64 (2*(dF))) akz _ A12.out).mono ?_);rintro e w13 ⟨rfl,hb⟩;refine ⟨_,rfl,?_⟩;replace HB:=aj.mk (ak zB hb);(try clear hb)))
   go_ret
   exact ⟨by first|rfl|(simp [bG,bH] <;> rfl)|(simp only [← jJ];first|rfl|(simp [bG,bH] <;> rfl))|(simp [*,bG,bH] <;> rfl),zB⟩
  ·rw [if_neg c11] at H
   have iO:(a0 == 1)=false:=beq_eq_false_iff_ne.mpr c11
   have yE:(a0 != 1)=true:=bne_iff_ne.mpr c11
   replace H:=zO H
   obtain ⟨t164,A14,H⟩:=H
   try dsimp only at H
   obtain rfl:=Option.some.inj H
   go_enter Tryz.func129,Tryz.ntmps129
   go_wp2_with (first|((with_reducible refine aA (f:=153) rfl ?_);refine aH (some 59) rfl rfl Tryz.func153 (by kernel_rfl) rfl #[.int .i64 (wrap64 ((wrap64 ((wrap64 ((wrap64 (2*a2))*a4)) - (wrap64 ((wrap64 ((wrap64 (2*a3))+1))*a1))))+a2)),.int .i64 (wrap64 (2*(dF)))] rfl (by (try simp only [List.map_toArray,List.map_cons,List.map_nil]);first|done|(simp only [jJ];rfl)|(simp only [Int.tdiv_eq_ediv_of_nonneg hji10l];rfl)|rfl|(simp only [List.length_drop,List.length_take];rfl)) ?_;(with_reducible refine (dZ.calls k (wrap64 ((wrap64 ((wrap64 ((wrap64 (2*a2))*a4)) - (wrap64 ((wrap64 ((wrap64 (2*a3))+1))*a1))))+a2)) (wrap64 (2*(dF))) t164 _ A14.out).mono ?_);rintro e w15 ⟨rfl,hb⟩;refine ⟨_,rfl,?_⟩;replace HB:=aj.mk (ak zB hb);(try clear hb)))
   go_ret
   exact ⟨by first|rfl|(simp [bG,bH] <;> rfl)|(simp only [← jJ];first|rfl|(simp [bG,bH] <;> rfl))|(simp [*,bG,bH] <;> rfl),zB⟩
def iq.l0:Nat→Int→Int→Int→Int→Int→List Int→Int→Int→Option (Int × List Int)
 | 0,_,_,_,_,_,_,_,_=>none
 | k+1,x0,x1,x2,x3,x8,x9,x20,x21=>if x21 < x20 then ((mY.f k x0 x1 x2 x3 (wrap64 (x8+x21))).bind fun t167=>(if x9.length < 17592186044416 then (iq.l0 k x0 x1 x2 x3 x8 (x9 ++ [t167]) x20 (wrap64 (x21+1))) else (none))) else (some (x8,x9))
def iq.f (k:Nat) (a0 a1 a2 a3:Int):Option (Int × List Int):=(kK.f k a0 a1 a2 a3).bind fun aqJ=>(iq.l0 k a0 a1 a2 a3 aqJ.1 ([]:List Int) aqJ.2 0)
theorem iq.iT:∀ k,(∀ y0 y1 y2 y3 y4 y5 y6 y7,LeO (iq.l0 k y0 y1 y2 y3 y4 y5 y6 y7) (iq.l0 (k+1) y0 y1 y2 y3 y4 y5 y6 y7))
 | 0=>fun _ _ _ _ _ _ _ _ r h=>by simp [iq.l0] at h
 | k+1=>by
  have ih0:=iq.iT k
  ·intro y0 y1 y2 y3 y4 y5 y6 y7
   unfold iq.l0
   repeat' (with_reducible first|exact ih0 _ _ _ _ _ _ _ _|exact kK.mono _ _ _ _ _|exact mY.mono _ _ _ _ _ _|exact zM|refine LeO.ite ?_ ?_|refine LeO.bind ?_ (fun _ => ?_))
theorem iq.mono:∀ a0 a1 a2 a3 k,LeO (iq.f k a0 a1 a2 a3) (iq.f (k+1) a0 a1 a2 a3):=by
 intro a0 a1 a2 a3 k
 have ih0:=iq.iT k
 unfold iq.f
 repeat' (with_reducible first|exact ih0 _ _ _ _ _ _ _ _|exact kK.mono _ _ _ _ _|exact mY.mono _ _ _ _ _ _|exact zM|refine LeO.ite ?_ ?_|refine LeO.bind ?_ (fun _ => ?_))
set_option maxHeartbeats 8000000 in
set_option maxRecDepth 100000 in
theorem iq.calls (k:Nat) (a0 a1 a2 a3 r1:Int) (r2:List Int) (w:World) (hG:GL w) (h:iq.f k a0 a1 a2 a3=some (r1,r2)) :
  Calls Tryz.prog 107 #[.int .i64 a0,.int .i64 a1,.int .i64 a2,.int .i64 a3] w fun e w'=>∃ v1_:Value,e = .returned (.tuple #[.int .i64 r1,v1_])∧Kd.R (Kd.int .i64) 2 w' w.heap.size (fun _=>True) v1_ r2∧Below w.heap.size w w':=by
 have HB:=aj.mk (Below.refl w.heap.size w)
 have H:=h
 clear h
 unfold iq.f at H
 replace H:=zO H
 obtain ⟨⟨akA,amX⟩,A5,H⟩:=H
 try dsimp only at H
 have H':=aj.mk H
 clear H
 go_enter Tryz.func107,Tryz.ntmps107
 go_wp2_with (first|((with_reducible refine aA (f:=128) rfl ?_);refine aH (some 17) rfl rfl Tryz.func128 (by kernel_rfl) rfl #[.int .i64 a0,.int .i64 a1,.int .i64 a2,.int .i64 a3] rfl zL ?_;(with_reducible refine (kK.calls k a0 a1 a2 a3 akA amX _ (by exact GL.below hG (by repeat (first|(with_reducible first|exact HB.out|apply aT|apply aI|apply bg)|exact HB.out|exact Below.refl _ _))) A5.out).mono ?_);rintro e w6 ⟨rfl,hb⟩;refine ⟨_,rfl,?_⟩;replace HB:=aj.mk (ak zB hb);(try clear hb)))
 go_loopg [9,21] k (fun kq v9 v21 w'=>∃ (rY:List Int) (vO:Int),v21 = .int .i64 vO∧aj (iq.l0 kq a0 a1 a2 a3 akA rY amX vO=some (r1,r2))∧aj (kq≤k)∧aj (Kd.R (Kd.int .i64) 2 w' w.heap.size (fun _=>True) v9 rY)∧aj (Below w.heap.size w w'))
 case atStart=>exact ⟨(([]:List Int)),(0),zT,H',⟨Nat.le_refl _⟩,⟨by first|exact Kd.jZ _ _ _ _ _|exact Kd.oI _ _ _ _ _|exact Kd.nD _ _ _ _ _|exact Kd.oJ _ _ _ _ _|exact Kd.ou _ _ _ _ _⟩,⟨zB⟩⟩
 case round =>
  clear H'
  obtain ⟨rY,vO,rfl,HA,HK1,amY,HB⟩:=hrel
  cases gk with
  | zero=>exact absurd HA.out (by simp [iq.l0])
  | succ k1 =>
   have H:=HA.out
   clear HA
   simp only [iq.l0] at H
   by_cases c7:vO < amX
   ·rw [if_pos c7] at H
    have jr:=decide_eq_true c7
    clear c7
    replace H:=zO H
    obtain ⟨t167,A8,H⟩:=H
    try dsimp only at H
    by_cases c9:rY.length < 17592186044416
    ·rw [if_pos c9] at H
     have av4:=aj.mk c9
     clear c9
     obtain ⟨y168,hy168⟩:∃ y_:List Int,y_=(rY ++ [t167]):=⟨_,rfl⟩
     replace H:(iq.l0 k1 a0 a1 a2 a3 akA y168 amX (wrap64 (vO+1)))=some (r1,r2):=by first|(rw [hy168];with_reducible exact H)|(have H2_:=(Option.bind_some _ _).symm.trans H;rw [hy168];with_reducible exact H2_)|(have H2_:=(Option.bind_some _ _).symm.trans H;with_reducible exact H2_)|with_reducible exact H|(rw [hy168];exact H)|exact H
     have auL:=aj.mk hy168
     clear hy168
     have H':=aj.mk H
     clear H
     go_wp2_with (first|((with_reducible refine aA (f:=129) rfl ?_);refine aH (some 32) rfl rfl Tryz.func129 (by kernel_rfl) rfl #[.int .i64 a0,.int .i64 a1,.int .i64 a2,.int .i64 a3,.int .i64 (wrap64 (akA+vO))] rfl zL ?_;(with_reducible refine (mY.calls k1 a0 a1 a2 a3 (wrap64 (akA+vO)) t167 _ A8.out).mono ?_);rintro e w10 ⟨rfl,hb⟩;refine ⟨_,rfl,?_⟩;obtain ⟨amY,HB⟩:=zA2 (Kd.jL (by (with_reducible repeat (first|apply Kd.aK|apply Kd.aQ|apply Kd.aW));exact amY.out) hb) (ak zB hb);(try clear hb))|((with_reducible refine jE (b := .append) (xs := #[.tmp 24,.tmp 33]) rfl ?_);at_builtin;refine Kd.kT (Kd.int .i64) (w0:=w) w.heap.size rfl (.tmp 24) (.tmp 33) 44 2 (.int .i64 0) 8 rfl Tryz.underlying44 vH rfl (by decide) (by omega) u9 rY t167 [.int .i64 t167] (fun _=>True) (fun _=>False) rfl rfl ?aP (fun _ hk=>hk.elim) ?aF ?aO ?aB ?aS ?aL ?_;(case aP=>exact rfl);(case aB=>exact zB);(case aF=>exact (fun _ _=>trivial));(case aO=>exact (by (with_reducible repeat (first|apply Kd.aK|apply Kd.aQ|apply Kd.aW));exact amY.out));(case aS=>exact (bF zB));(case aL=>have:=av4.out;omega);intro aA8 w11 ho hb hg hat;rw [← auL.out] at ho;obtain ⟨HB,auM⟩:=zA2 hb ho;clear ho hb hg hat))
     go_roundg k1
     case measure=>have:=HK1.out;omega
     case rel=>exact ⟨(y168),(wrap64 (vO+1)),zT,H',⟨by have:=HK1.out;omega⟩,⟨by (with_reducible repeat (first|apply Kd.aK|apply Kd.aQ|apply Kd.aW));exact auM.out⟩,⟨zB⟩⟩
    ·rw [if_neg c9] at H
     exact absurd H (by simp)
   ·rw [if_neg c7] at H
    have jr:=decide_eq_false c7
    clear c7
    simp only [Option.some.injEq,Prod.mk.injEq] at H
    obtain ⟨rfl,rfl⟩:=H
    go_wp2
    go_ret2
    exact ⟨_,zS,by (with_reducible repeat (first|apply Kd.aK|apply Kd.aQ|apply Kd.aW));exact amY.out,zB⟩
end Go.Proofs.YtpondkggmcmpfaaGreatDoor.QA
namespace Go.Proofs.YtpondkggmcmpfaaGreatDoor.QA
open Go.Proofs.YtpondkggmcmpfaaGreatDoor.T
open Go.RowKit Go.Proofs.YtpondkggmcmpfaaGreatDoorW.PrintWords Go.Proofs.YtpondkggmcmpfaaGreatDoorW.PrintLast Go.Proofs.YtpondkggmcmpfaaGreatDoorW.PrintMore
attribute [local go_sem] dV dQ dR eP eX
set_option linter.unusedVariables false
set_option linter.unusedSimpArgs false
def lD.f (a0:Int):Option (Bool):=if a0≥1 then (some (decide (a0≤65536))) else (some false)
set_option maxHeartbeats 8000000 in
set_option maxRecDepth 100000 in
theorem lD.calls (a0:Int) (r:Bool) (w:World) (h:lD.f a0=some r) :
  Calls Tryz.prog 111 #[.int .i64 a0] w fun e w'=>e = .returned (.bool r)∧dw w w':=by
 have H:=h
 clear h
 unfold lD.f at H
 by_cases c2:a0≥1
 ·rw [if_pos c2] at H
  have lQ:=decide_eq_true c2
  clear c2
  obtain rfl:=Option.some.inj H
  go_enter Tryz.func111,Tryz.ntmps111
  go_wp2
  go_ret
  exact ⟨zT,zW⟩
 ·rw [if_neg c2] at H
  have lQ:=decide_eq_false c2
  clear c2
  obtain rfl:=Option.some.inj H
  go_enter Tryz.func111,Tryz.ntmps111
  go_wp2
  go_ret
  exact ⟨zT,zW⟩
def jX.l0:Nat→Int→List Int→Int→Int→Option (Int)
 | 0,_,_,_,_=>none
 | k+1,x3,x6,x7,x8=>if x8 < x7 then (if 0≤x8 then (if x8 < (x6.length:Int) then ((tV.f k (rd x6 x8)).bind fun akB=>((kH.f k x3 akB).bind fun t182=>(jX.l0 k t182 x6 x7 (wrap64 (x8+1))))) else (none)) else (none)) else (some x3)
def jX.f (k:Nat) (l0:List Int):Option (Int):=jX.l0 k 0 l0 (l0.length:Int) 0
set_option maxHeartbeats 8000000 in
set_option maxRecDepth 100000 in
theorem jX.calls (k:Nat) (A0:Option Addr) (c0:Nat) (l0:List Int) (r:Int) (w:World) (hr0:Kd.C (Kd.int .i64) w A0 l0.length l0) (hc0:l0.length≤c0) (h:jX.f k l0=some r) :
  Calls Tryz.prog 138 #[.slice A0 l0.length c0] w fun e w'=>e = .returned (.int .i64 r)∧Below w.heap.size w w':=by
 have HR0:=aj.mk hr0
 have HC0:=aj.mk hc0
 clear hr0 hc0
 have HB:=aj.mk (Below.refl w.heap.size w)
 have H:=h
 clear h
 unfold jX.f at H
 have H':=aj.mk H
 clear H
 go_enter Tryz.func138,Tryz.ntmps138
 go_wp2
 go_loopg [3,8] k (fun kq v3 v8 w'=>∃ (qA:Int) (gY:Int),v3 = .int .i64 qA∧v8 = .int .i64 gY∧aj (jX.l0 kq qA l0 (l0.length:Int) gY=some r)∧aj (kq≤k)∧aj (Below w.heap.size w w'))
 case atStart=>exact ⟨(0),(0),zT,zT,H',⟨Nat.le_refl _⟩,⟨zB⟩⟩
 case round =>
  clear H'
  obtain ⟨qA,gY,rfl,rfl,HA,HK1,HB⟩:=hrel
  cases gk with
  | zero=>exact absurd HA.out (by simp [jX.l0])
  | succ k1 =>
   have H:=HA.out
   clear HA
   simp only [jX.l0] at H
   by_cases c2:gY < (l0.length:Int)
   ·rw [if_pos c2] at H
    have lQ:=decide_eq_true c2
    clear c2
    by_cases c3:0≤gY
    ·rw [if_pos c3] at H
     have fO:=decide_eq_true c3
     clear c3
     by_cases c4:gY < (l0.length:Int)
     ·rw [if_pos c4] at H
      have fU:=decide_eq_true c4
      clear c4
      replace H:=zO H
      obtain ⟨akB,A5,H⟩:=H
      try dsimp only at H
      replace H:=zO H
      obtain ⟨t182,A6,H⟩:=H
      try dsimp only at H
      have H':=aj.mk H
      clear H
      have apM:0≤(gY:Int):=of_decide_eq_true (by first|(with_reducible assumption)|assumption)
      have apN:gY < (l0.length:Int):=of_decide_eq_true (by first|(with_reducible assumption)|assumption)
      obtain ⟨aAh,av5,ahR⟩:=Kd.jD HR0.out gY apM apN
      cases av5
      replace ahR:=(HB.out.cell (World.block_lt_of_cell? w _ ahR)).trans ahR
      replace apM:=eq_true apM
      replace apN:=eq_true apN
      go_wp2_with (first|((with_reducible refine aA (f:=161) rfl ?_);refine aH (some 14) rfl rfl Tryz.func161 (by kernel_rfl) rfl #[.int .i64 (rd l0 gY)] rfl zL ?_;(with_reducible refine (tV.calls k1 (rd l0 gY) akB _ A5.out).mono ?_);rintro e w7 ⟨rfl,hb⟩;refine ⟨_,rfl,?_⟩;replace HB:=aj.mk (ak zB hb);(try clear hb))|((with_reducible refine aA (f:=162) rfl ?_);refine aH (some 15) rfl rfl Tryz.func162 (by kernel_rfl) rfl #[.int .i64 qA,.int .i64 akB] rfl zL ?_;(with_reducible refine (kH.calls k1 qA akB t182 _ A6.out).mono ?_);rintro e w' ⟨rfl,⟨nd,rfl⟩⟩;refine ⟨_,rfl,?_⟩))
      go_roundg k1
      case measure=>have:=HK1.out;omega
      case rel=>exact ⟨(t182),(wrap64 (gY+1)),zT,zT,H',⟨by have:=HK1.out;omega⟩,⟨zB⟩⟩
     ·rw [if_neg c4] at H
      exact absurd H (by simp)
    ·rw [if_neg c3] at H
     exact absurd H (by simp)
   ·rw [if_neg c2] at H
    have lQ:=decide_eq_false c2
    clear c2
    obtain rfl:=Option.some.inj H
    go_wp2
    go_ret
    exact ⟨zS,zB⟩
def iC.l0:Nat→Int→Int→Int→Int→Int→Option (Int)
 | 0,_,_,_,_,_=>none
 | k+1,x3,x4,x5,x6,x14=>if x14 < 16 then ((aZ.f k x6 x4 (wrap64 ((wrap64 (x14+1))*1099511627776))).bind fun t183=>(if (Int.tmod x14 2)=0 then (iC.l0 k x3 x4 (wrap64 (x5 - t183)) t183 (wrap64 (x14+1))) else (iC.l0 k x3 x4 (wrap64 (x5+t183)) t183 (wrap64 (x14+1))))) else ((mg.f x5 x3).bind fun apO=>(some apO))
def iC.f (k:Nat) (a0:Int):Option (Int):=iC.l0 k (wrap64 ((mx 0 a0) / 762123384786)) ((mx 0 a0) % 762123384786) 1099511627776 1099511627776 0
theorem iC.iT:∀ k,(∀ y0 y1 y2 y3 y4,LeO (iC.l0 k y0 y1 y2 y3 y4) (iC.l0 (k+1) y0 y1 y2 y3 y4))
 | 0=>fun _ _ _ _ _ r h=>by simp [iC.l0] at h
 | k+1=>by
  have ih0:=iC.iT k
  ·intro y0 y1 y2 y3 y4
   unfold iC.l0
   repeat' (with_reducible first|exact ih0 _ _ _ _ _|exact aZ.mono _ _ _ _|exact zM|refine LeO.ite ?_ ?_|refine LeO.bind ?_ (fun _ => ?_))
theorem iC.mono:∀ a0 k,LeO (iC.f k a0) (iC.f (k+1) a0):=by
 intro a0 k
 have ih0:=iC.iT k
 unfold iC.f
 repeat' (with_reducible first|exact ih0 _ _ _ _ _|exact aZ.mono _ _ _ _|exact zM|refine LeO.ite ?_ ?_|refine LeO.bind ?_ (fun _ => ?_))
set_option maxHeartbeats 8000000 in
set_option maxRecDepth 100000 in
theorem iC.calls (k:Nat) (a0 r:Int) (w:World) (h:iC.f k a0=some r) :
  Calls Tryz.prog 167 #[.int .i64 a0] w fun e w'=>e = .returned (.int .i64 r)∧Below w.heap.size w w':=by
 have HB:=aj.mk (Below.refl w.heap.size w)
 have H:=h
 clear h
 unfold iC.f at H
 obtain ⟨ji2,zJ⟩:∃ j_:Int,(mx 0 a0)=j_:=⟨_,rfl⟩
 replace H:(iC.l0 k (wrap64 ((ji2) / 762123384786)) ((ji2) % 762123384786) 1099511627776 1099511627776 0)=some r:=by first|(rw [zJ] at H;exact H)|(simp only [zJ] at H ⊢;exact H)
 (try (have amZ:0≤ji2:=by (rw [← zJ];unfold mx;(repeat' split) <;> omega)))
 (try (have aAi:0≤ji2:=by omega))
 have auH:(if 0 < a0 then a0 else 0)=ji2:=zJ
 have H':=aj.mk H
 clear H
 go_enter Tryz.func167,Tryz.ntmps167
 go_wp2
 go_loopg [5,6,14] k (fun kq v5 v6 v14 w'=>∃ (afR:Int) (o8:Int) (uI:Int),v5 = .int .i64 afR∧v6 = .int .i64 o8∧v14 = .int .i64 uI∧aj (iC.l0 kq (wrap64 ((ji2) / 762123384786)) ((ji2) % 762123384786) afR o8 uI=some r)∧aj (kq≤k)∧aj (Below w.heap.size w w'))
 case atStart=>exact ⟨(1099511627776),(1099511627776),(0),zT,zT,zT,H',⟨Nat.le_refl _⟩,⟨zB⟩⟩
 case round =>
  clear H'
  obtain ⟨afR,o8,uI,rfl,rfl,rfl,HA,HK1,HB⟩:=hrel
  cases gk with
  | zero=>exact absurd HA.out (by simp [iC.l0])
  | succ k1 =>
   have H:=HA.out
   clear HA
   simp only [iC.l0] at H
   by_cases c3:uI < 16
   ·rw [if_pos c3] at H
    have fO:=decide_eq_true c3
    clear c3
    replace H:=zO H
    obtain ⟨t183,A4,H⟩:=H
    try dsimp only at H
    by_cases c5:(Int.tmod uI 2)=0
    ·rw [if_pos c5] at H
     have iL:((Int.tmod uI 2) == 0)=true:=beq_iff_eq.mpr c5
     have abt:((Int.tmod uI 2) != 0)=false:=bne_eq_false_iff_eq.mpr c5
     clear c5
     have H':=aj.mk H
     clear H
     go_wp2_with (first|((with_reducible refine aA (f:=130) rfl ?_);refine aH (some 22) rfl rfl Tryz.func130 (by kernel_rfl) rfl #[.int .i64 o8,.int .i64 ((ji2) % 762123384786),.int .i64 (wrap64 ((wrap64 (uI+1))*1099511627776))] rfl (by (try simp only [List.map_toArray,List.map_cons,List.map_nil]);first|done|(simp only [zJ];rfl)|(simp only [Int.tdiv_eq_ediv_of_nonneg amZ];rfl)|rfl|(simp only [List.length_drop,List.length_take];rfl)) ?_;(with_reducible refine (aZ.calls k1 o8 ((ji2) % 762123384786) (wrap64 ((wrap64 (uI+1))*1099511627776)) t183 _ A4.out).mono ?_);rintro e w' ⟨rfl,⟨nd,rfl⟩⟩;refine ⟨_,rfl,?_⟩))
     go_roundg k1
     case measure=>have:=HK1.out;omega
     case rel=>exact ⟨(wrap64 (afR - t183)),(t183),(wrap64 (uI+1)),zT,zT,zT,H',⟨by have:=HK1.out;omega⟩,⟨zB⟩⟩
    ·rw [if_neg c5] at H
     have iL:((Int.tmod uI 2) == 0)=false:=beq_eq_false_iff_ne.mpr c5
     have abt:((Int.tmod uI 2) != 0)=true:=bne_iff_ne.mpr c5
     have H':=aj.mk H
     clear H
     go_wp2_with (first|((with_reducible refine aA (f:=130) rfl ?_);refine aH (some 22) rfl rfl Tryz.func130 (by kernel_rfl) rfl #[.int .i64 o8,.int .i64 ((ji2) % 762123384786),.int .i64 (wrap64 ((wrap64 (uI+1))*1099511627776))] rfl (by (try simp only [List.map_toArray,List.map_cons,List.map_nil]);first|done|(simp only [zJ];rfl)|(simp only [Int.tdiv_eq_ediv_of_nonneg amZ];rfl)|rfl|(simp only [List.length_drop,List.length_take];rfl)) ?_;(with_reducible refine (aZ.calls k1 o8 ((ji2) % 762123384786) (wrap64 ((wrap64 (uI+1))*1099511627776)) t183 _ A4.out).mono ?_);rintro e w' ⟨rfl,⟨nd,rfl⟩⟩;refine ⟨_,rfl,?_⟩))
     go_roundg k1
     case measure=>have:=HK1.out;omega
     case rel=>exact ⟨(wrap64 (afR+t183)),(t183),(wrap64 (uI+1)),zT,zT,zT,H',⟨by have:=HK1.out;omega⟩,⟨zB⟩⟩
   ·rw [if_neg c3] at H
    have fO:=decide_eq_false c3
    clear c3
    replace H:=zO H
    obtain ⟨apO,A6,H⟩:=H
    try dsimp only at H
    obtain rfl:=Option.some.inj H
    go_wp2_with (first|((with_reducible refine aA (f:=100) rfl ?_);refine aH (some 35) rfl rfl Tryz.func100 (by kernel_rfl) rfl #[.int .i64 afR,.int .i64 (wrap64 ((ji2) / 762123384786))] rfl (by (try simp only [List.map_toArray,List.map_cons,List.map_nil]);first|done|(simp only [zJ];rfl)|(simp only [Int.tdiv_eq_ediv_of_nonneg amZ];rfl)|rfl|(simp only [List.length_drop,List.length_take];rfl)) ?_;(with_reducible refine (mg.calls afR (wrap64 ((ji2) / 762123384786)) apO _ A6.out).mono ?_);rintro e w' ⟨rfl,⟨nd,rfl⟩⟩;refine ⟨_,rfl,?_⟩))
    go_ret
    exact ⟨by first|rfl|(simp [bG,bH] <;> rfl)|(simp only [← zJ];first|rfl|(simp [bG,bH] <;> rfl))|(simp [*,bG,bH] <;> rfl),zB⟩
def mF.f (k:Nat) (a0 a1:Int):Option (Int):=if a1 < 1 then (some 9223372036854775807) else (if a1 > 4194304 then (some 9223372036854775807) else (if a0 < (-16384) then (some 9223372036854775807) else (if a0 > 16384 then (some 9223372036854775807) else ((aZ.f k (wrap64 ((wrap64 (a0*a0))*2147483648)) 1099511627776 (wrap64 (a1*a1))).bind fun apP=>(some apP)))))
theorem mF.mono:∀ a0 a1 k,LeO (mF.f k a0 a1) (mF.f (k+1) a0 a1):=by
 intro a0 a1 k
 unfold mF.f
 repeat' (with_reducible first|exact aZ.mono _ _ _ _|exact zM|refine LeO.ite ?_ ?_|refine LeO.bind ?_ (fun _ => ?_))
set_option maxHeartbeats 8000000 in
set_option maxRecDepth 100000 in
theorem mF.calls (k:Nat) (a0 a1 r:Int) (w:World) (h:mF.f k a0 a1=some r) :
  Calls Tryz.prog 168 #[.int .i64 a0,.int .i64 a1] w fun e w'=>e = .returned (.int .i64 r)∧dw w w':=by
 have H:=h
 clear h
 unfold mF.f at H
 by_cases c3:a1 < 1
 ·rw [if_pos c3] at H
  have fO:=decide_eq_true c3
  clear c3
  obtain rfl:=Option.some.inj H
  go_enter Tryz.func168,Tryz.ntmps168
  go_wp2
  go_ret
  exact ⟨zT,zW⟩
 ·rw [if_neg c3] at H
  have fO:=decide_eq_false c3
  clear c3
  by_cases c4:a1 > 4194304
  ·rw [if_pos c4] at H
   have fU:=decide_eq_true c4
   clear c4
   obtain rfl:=Option.some.inj H
   go_enter Tryz.func168,Tryz.ntmps168
   go_wp2
   go_ret
   exact ⟨zT,zW⟩
  ·rw [if_neg c4] at H
   have fU:=decide_eq_false c4
   clear c4
   by_cases c5:a0 < (-16384)
   ·rw [if_pos c5] at H
    have iL:=decide_eq_true c5
    clear c5
    obtain rfl:=Option.some.inj H
    go_enter Tryz.func168,Tryz.ntmps168
    go_wp2
    go_ret
    exact ⟨zT,zW⟩
   ·rw [if_neg c5] at H
    have iL:=decide_eq_false c5
    clear c5
    by_cases c6:a0 > 16384
    ·rw [if_pos c6] at H
     have iw:=decide_eq_true c6
     clear c6
     obtain rfl:=Option.some.inj H
     go_enter Tryz.func168,Tryz.ntmps168
     go_wp2
     go_ret
     exact ⟨zT,zW⟩
    ·rw [if_neg c6] at H
     have iw:=decide_eq_false c6
     clear c6
     replace H:=zO H
     obtain ⟨apP,A7,H⟩:=H
     try dsimp only at H
     obtain rfl:=Option.some.inj H
     go_enter Tryz.func168,Tryz.ntmps168
     go_wp2_with (first|((with_reducible refine aA (f:=130) rfl ?_);refine aH (some 26) rfl rfl Tryz.func130 (by kernel_rfl) rfl #[.int .i64 (wrap64 ((wrap64 (a0*a0))*2147483648)),.int .i64 1099511627776,.int .i64 (wrap64 (a1*a1))] rfl zL ?_;(with_reducible refine (aZ.calls k (wrap64 ((wrap64 (a0*a0))*2147483648)) 1099511627776 (wrap64 (a1*a1)) apP _ A7.out).mono ?_);rintro e w' ⟨rfl,⟨nd,rfl⟩⟩;refine ⟨_,rfl,?_⟩))
     go_ret
     exact ⟨zT,zW⟩
def kL.f (k:Nat) (a0 a1:Int):Option (Int):=(mF.f k a0 a1).bind fun akC=>((iC.f k akC).bind fun akD=>((mg.f akD 10).bind fun apQ=>(some apQ)))
theorem kL.mono:∀ a0 a1 k,LeO (kL.f k a0 a1) (kL.f (k+1) a0 a1):=by
 intro a0 a1 k
 unfold kL.f
 repeat' (with_reducible first|exact iC.mono _ _|exact mF.mono _ _ _|exact zM|refine LeO.ite ?_ ?_|refine LeO.bind ?_ (fun _ => ?_))
set_option maxHeartbeats 8000000 in
set_option maxRecDepth 100000 in
theorem kL.calls (k:Nat) (a0 a1 r:Int) (w:World) (h:kL.f k a0 a1=some r) :
  Calls Tryz.prog 137 #[.int .i64 a0,.int .i64 a1] w fun e w'=>e = .returned (.int .i64 r)∧Below w.heap.size w w':=by
 have HB:=aj.mk (Below.refl w.heap.size w)
 have H:=h
 clear h
 unfold kL.f at H
 replace H:=zO H
 obtain ⟨akC,A3,H⟩:=H
 try dsimp only at H
 replace H:=zO H
 obtain ⟨akD,A4,H⟩:=H
 try dsimp only at H
 replace H:=zO H
 obtain ⟨apQ,A5,H⟩:=H
 try dsimp only at H
 obtain rfl:=Option.some.inj H
 go_enter Tryz.func137,Tryz.ntmps137
 go_wp2_with (first|((with_reducible refine aA (f:=168) rfl ?_);refine aH (some 7) rfl rfl Tryz.func168 (by kernel_rfl) rfl #[.int .i64 a0,.int .i64 a1] rfl zL ?_;(with_reducible refine (mF.calls k a0 a1 akC _ A3.out).mono ?_);rintro e w' ⟨rfl,⟨nd,rfl⟩⟩;refine ⟨_,rfl,?_⟩)|((with_reducible refine aA (f:=167) rfl ?_);refine aH (some 8) rfl rfl Tryz.func167 (by kernel_rfl) rfl #[.int .i64 akC] rfl zL ?_;(with_reducible refine (iC.calls k akC akD _ A4.out).mono ?_);rintro e w6 ⟨rfl,hb⟩;refine ⟨_,rfl,?_⟩;replace HB:=aj.mk (ak zB hb);(try clear hb))|((with_reducible refine aA (f:=100) rfl ?_);refine aH (some 9) rfl rfl Tryz.func100 (by kernel_rfl) rfl #[.int .i64 akD,.int .i64 10] rfl zL ?_;(with_reducible refine (mg.calls akD 10 apQ _ A5.out).mono ?_);rintro e w' ⟨rfl,⟨nd,rfl⟩⟩;refine ⟨_,rfl,?_⟩))
 go_ret
 exact ⟨zS,zB⟩
end Go.Proofs.YtpondkggmcmpfaaGreatDoor.QA
namespace Go.Proofs.YtpondkggmcmpfaaGreatDoor.QA
open Go.Proofs.YtpondkggmcmpfaaGreatDoor.T
open Go.RowKit Go.Proofs.YtpondkggmcmpfaaGreatDoorW.PrintWords Go.Proofs.YtpondkggmcmpfaaGreatDoorW.PrintLast Go.Proofs.YtpondkggmcmpfaaGreatDoorW.PrintMore
attribute [local go_sem] dV dQ dR eP eX
set_option linter.unusedVariables false
set_option linter.unusedSimpArgs false
mutual
def bn.j0:Nat→Int→Bool→Option (List Int × Int)
 | 0,_,_=>none
 | k+1,x0,x12=>if x12=true then (some (([]:List Int),7)) else (bn.l0 k x0 ((wrap64 ((wrap64 ((wrap64 (3*x0))+65536)) - 1)) / 65536) ([]:List Int) (wrap64 (-((wrap64 ((wrap64 ((wrap64 (3*x0))+65536)) - 1)) / 65536))))
def bn.l0:Nat→Int→Int→List Int→Int→Option (List Int × Int)
 | 0,_,_,_,_=>none
 | k+1,x0,x4,x5,x6=>if x6≤x4 then ((kL.f k x6 x0).bind fun ahS=>(if x5.length < 17592186044416 then (bn.l0 k x0 x4 (x5 ++ [ahS]) (wrap64 (x6+1))) else (none))) else (some (x5,0))
end
def bn.f (k:Nat) (a0:Int):Option (List Int × Int):=if a0 < 1 then (bn.j0 k a0 true) else (bn.j0 k a0 (decide (a0 > 4194304)))
theorem bn.iT:∀ k,(∀ y0 y1,LeO (bn.j0 k y0 y1) (bn.j0 (k+1) y0 y1))∧(∀ y0 y1 y2 y3,LeO (bn.l0 k y0 y1 y2 y3) (bn.l0 (k+1) y0 y1 y2 y3))
 | 0=>⟨fun _ _ r h=>by simp [bn.j0] at h,fun _ _ _ _ r h=>by simp [bn.l0] at h⟩
 | k+1=>by
  obtain ⟨ih0,ih1⟩:=bn.iT k
  refine ⟨?_,?_⟩
  ·intro y0 y1
   unfold bn.j0
   repeat' (with_reducible first|exact ih0 _ _|exact ih1 _ _ _ _|exact kL.mono _ _ _|exact zM|refine LeO.ite ?_ ?_|refine LeO.bind ?_ (fun _ => ?_))
  ·intro y0 y1 y2 y3
   unfold bn.l0
   repeat' (with_reducible first|exact ih0 _ _|exact ih1 _ _ _ _|exact kL.mono _ _ _|exact zM|refine LeO.ite ?_ ?_|refine LeO.bind ?_ (fun _ => ?_))
theorem bn.mono:∀ a0 k,LeO (bn.f k a0) (bn.f (k+1) a0):=by
 intro a0 k
 obtain ⟨ih0,ih1⟩:=bn.iT k
 unfold bn.f
 repeat' (with_reducible first|exact ih0 _ _|exact ih1 _ _ _ _|exact kL.mono _ _ _|exact zM|refine LeO.ite ?_ ?_|refine LeO.bind ?_ (fun _ => ?_))
set_option maxHeartbeats 8000000 in
set_option maxRecDepth 100000 in
theorem bn.calls (k:Nat) (a0:Int) (r1:List Int) (r2:Int) (w:World) (h:bn.f k a0=some (r1,r2)) :
  Calls Tryz.prog 110 #[.int .i64 a0] w fun e w'=>∃ v0_:Value,e = .returned (.tuple #[v0_,.int .i64 r2])∧Kd.R (Kd.int .i64) 2 w' w.heap.size (fun _=>True) v0_ r1∧Below w.heap.size w w':=by
 have HB:=aj.mk (Below.refl w.heap.size w)
 have H:=h
 clear h
 unfold bn.f at H
 have HC2:=aj.mk H
 clear H
 go_enter Tryz.func110,Tryz.ntmps110
 go_upto_region 1 with (fail)
 go_cut [12] (fun v12 wc=>∃ (kq:Nat) (aaZ:Bool),v12 = .bool aaZ∧aj (bn.j0 kq a0 aaZ=some (r1,r2))∧aj (kq≤k)∧aj (Below w.heap.size w wc))
 case first =>
  have H:=HC2.out
  clear HC2
  by_cases c3:a0 < 1
  ·rw [if_pos c3] at H
   have fO:=decide_eq_true c3
   clear c3
   (first|rw [fO]|(simp only [bZ,dA];rw [fO])|skip)
   have H':=aj.mk H
   clear H
   go_wp2
   go_meet
   case rel=>exact ⟨_,(true),zT,H',⟨by first|omega|exact Nat.le_refl _⟩,⟨zB⟩⟩
  ·rw [if_neg c3] at H
   have fO:=decide_eq_false c3
   clear c3
   (first|rw [fO]|(simp only [bZ,dA];rw [fO])|skip)
   have H':=aj.mk H
   clear H
   go_wp2
   go_meet
   case rel=>exact ⟨_,(decide (a0 > 4194304)),zT,H',⟨by first|omega|exact Nat.le_refl _⟩,⟨zB⟩⟩
 case rest =>
  clear HC2
  obtain ⟨kq,aaZ,rfl,HA,HJ1,HB⟩:=hcut
  cases kq with
  | zero=>exact absurd HA.out (by simp [bn.j0])
  | succ kj1 =>
   have H:=HA.out
   clear HA
   simp only [bn.j0] at H
   by_cases c4:aaZ=true
   ·subst c4
    rw [if_pos rfl] at H;try dsimp only at H
    simp only [Option.some.injEq,Prod.mk.injEq] at H
    obtain ⟨rfl,rfl⟩:=H
    go_wp2
    go_ret2
    exact ⟨_,zS,by first|exact Kd.jZ _ _ _ _ _|exact Kd.oI _ _ _ _ _|exact Kd.nD _ _ _ _ _|exact Kd.oJ _ _ _ _ _|exact Kd.ou _ _ _ _ _,zB⟩
   ·replace c4:=Bool.eq_false_iff.mpr c4
    subst c4
    rw [if_neg (show ¬ (false=true) by decide)] at H;try dsimp only at H
    have H':=aj.mk H
    clear H
    go_wp2
    go_loopg [5,6] kj1 (fun kq v5 v6 w'=>∃ (lS:List Int) (wQ:Int),v6 = .int .i64 wQ∧aj (bn.l0 kq a0 ((wrap64 ((wrap64 ((wrap64 (3*a0))+65536)) - 1)) / 65536) lS wQ=some (r1,r2))∧aj (kq≤kj1)∧aj (Kd.R (Kd.int .i64) 2 w' w.heap.size (fun _=>True) v5 lS)∧aj (Below w.heap.size w w'))
    case atStart=>exact ⟨(([]:List Int)),(wrap64 (-((wrap64 ((wrap64 ((wrap64 (3*a0))+65536)) - 1)) / 65536))),zT,H',⟨Nat.le_refl _⟩,⟨by first|exact Kd.jZ _ _ _ _ _|exact Kd.oI _ _ _ _ _|exact Kd.nD _ _ _ _ _|exact Kd.oJ _ _ _ _ _|exact Kd.ou _ _ _ _ _⟩,⟨zB⟩⟩
    case round =>
     clear H'
     obtain ⟨lS,wQ,rfl,HA,HK2,wF,HB⟩:=hrel
     cases gk with
     | zero=>exact absurd HA.out (by simp [bn.l0])
     | succ k2 =>
      have H:=HA.out
      clear HA
      simp only [bn.l0] at H
      by_cases c5:wQ≤((wrap64 ((wrap64 ((wrap64 (3*a0))+65536)) - 1)) / 65536)
      ·rw [if_pos c5] at H
       have iL:=decide_eq_true c5
       clear c5
       replace H:=zO H
       obtain ⟨ahS,A6,H⟩:=H
       try dsimp only at H
       by_cases c7:lS.length < 17592186044416
       ·rw [if_pos c7] at H
        have av6:=aj.mk c7
        clear c7
        obtain ⟨asR,agV⟩:∃ y_:List Int,y_=(lS ++ [ahS]):=⟨_,rfl⟩
        replace H:(bn.l0 k2 a0 ((wrap64 ((wrap64 ((wrap64 (3*a0))+65536)) - 1)) / 65536) asR (wrap64 (wQ+1)))=some (r1,r2):=by first|(rw [agV];with_reducible exact H)|(have H2_:=(Option.bind_some _ _).symm.trans H;rw [agV];with_reducible exact H2_)|(have H2_:=(Option.bind_some _ _).symm.trans H;with_reducible exact H2_)|with_reducible exact H|(rw [agV];exact H)|exact H
        have auN:=aj.mk agV
        clear agV
        have H':=aj.mk H
        clear H
        go_wp2_with (first|((with_reducible refine aA (f:=137) rfl ?_);refine aH (some 28) rfl rfl Tryz.func137 (by kernel_rfl) rfl #[.int .i64 wQ,.int .i64 a0] rfl zL ?_;(with_reducible refine (kL.calls k2 wQ a0 ahS _ A6.out).mono ?_);rintro e w8 ⟨rfl,hb⟩;refine ⟨_,rfl,?_⟩;obtain ⟨wF,HB⟩:=zA2 (Kd.jL (by (with_reducible repeat (first|apply Kd.aK|apply Kd.aQ|apply Kd.aW));exact wF.out) hb) (ak zB hb);(try clear hb))|((with_reducible refine jE (b := .append) (xs := #[.tmp 25,.tmp 29]) rfl ?_);at_builtin;refine Kd.kT (Kd.int .i64) (w0:=w) w.heap.size rfl (.tmp 25) (.tmp 29) 44 2 (.int .i64 0) 8 rfl Tryz.underlying44 vH rfl (by decide) (by omega) u5 lS ahS [.int .i64 ahS] (fun _=>True) (fun _=>False) rfl rfl ?aP (fun _ hk=>hk.elim) ?aF ?aO ?aB ?aS ?aL ?_;(case aP=>exact rfl);(case aB=>exact zB);(case aF=>exact (fun _ _=>trivial));(case aO=>exact (by (with_reducible repeat (first|apply Kd.aK|apply Kd.aQ|apply Kd.aW));exact wF.out));(case aS=>exact (bF zB));(case aL=>have:=av6.out;omega);intro aA9 w9 ho hb hg hat;rw [← auN.out] at ho;obtain ⟨HB,auO⟩:=zA2 hb ho;clear ho hb hg hat))
        go_roundg k2
        case measure=>have:=HJ1.out;have:=HK2.out;omega
        case rel=>exact ⟨(asR),(wrap64 (wQ+1)),zT,H',⟨by have:=HJ1.out;have:=HK2.out;omega⟩,⟨by (with_reducible repeat (first|apply Kd.aK|apply Kd.aQ|apply Kd.aW));exact auO.out⟩,⟨zB⟩⟩
       ·rw [if_neg c7] at H
        exact absurd H (by simp)
      ·rw [if_neg c5] at H
       have iL:=decide_eq_false c5
       clear c5
       simp only [Option.some.injEq,Prod.mk.injEq] at H
       obtain ⟨rfl,rfl⟩:=H
       go_wp2
       go_ret2
       exact ⟨_,zS,by (with_reducible repeat (first|apply Kd.aK|apply Kd.aQ|apply Kd.aW));exact wF.out,zB⟩
end Go.Proofs.YtpondkggmcmpfaaGreatDoor.QA
namespace Go.Proofs.YtpondkggmcmpfaaGreatDoor.QA
open Go.Proofs.YtpondkggmcmpfaaGreatDoor.T
open Go.RowKit Go.Proofs.YtpondkggmcmpfaaGreatDoorW.PrintWords Go.Proofs.YtpondkggmcmpfaaGreatDoorW.PrintLast Go.Proofs.YtpondkggmcmpfaaGreatDoorW.PrintMore
attribute [local go_sem] dV dQ dR eP eX
set_option linter.unusedVariables false
set_option linter.unusedSimpArgs false
mutual
def fJ.j0:Nat→List Int→Int→Bool→Option (List Int × Int)
 | 0,_,_,_=>none
 | k+1,x0,x4,x26=>if x26=true then (some (([]:List Int),7)) else (fJ.l0 k x4 ([]:List Int) x0 (x0.length:Int) 0)
def fJ.l0:Nat→Int→List Int→List Int→Int→Int→Option (List Int × Int)
 | 0,_,_,_,_,_=>none
 | k+1,x4,x5,x27,x28,x29=>if x29 < x28 then (if 0≤x29 then (if x29 < (x27.length:Int) then ((aZ.f k (rd x27 x29) 1073741824 x4).bind fun ahT=>(if x5.length < 17592186044416 then (fJ.l0 k x4 (x5 ++ [ahT]) x27 x28 (wrap64 (x29+1))) else (none))) else (none)) else (none)) else (some (x5,0))
end
def fJ.f (k:Nat) (l0:List Int):Option (List Int × Int):=(jX.f k l0).bind fun t193=>(if ((l0.length:Int) % 2)=0 then (fJ.j0 k l0 t193 true) else (if (l0.length:Int) > 1024 then (fJ.j0 k l0 t193 true) else (if t193 < 1 then (fJ.j0 k l0 t193 true) else (fJ.j0 k l0 t193 (decide (t193 > 1048576))))))
set_option maxHeartbeats 8000000 in
set_option maxRecDepth 100000 in
theorem fJ.calls (k:Nat) (A0:Option Addr) (c0:Nat) (l0 r1:List Int) (r2:Int) (w:World) (hr0:Kd.C (Kd.int .i64) w A0 l0.length l0) (hc0:l0.length≤c0) (h:fJ.f k l0=some (r1,r2)) :
  Calls Tryz.prog 127 #[.slice A0 l0.length c0] w fun e w'=>∃ v0_:Value,e = .returned (.tuple #[v0_,.int .i64 r2])∧Kd.R (Kd.int .i64) 2 w' w.heap.size (fun _=>True) v0_ r1∧Below w.heap.size w w':=by
 have HR0:=aj.mk hr0
 have HC0:=aj.mk hc0
 clear hr0 hc0
 have HB:=aj.mk (Below.refl w.heap.size w)
 have H:=h
 clear h
 unfold fJ.f at H
 replace H:=zO H
 obtain ⟨t193,A2,H⟩:=H
 try dsimp only at H
 have HC3:=aj.mk H
 clear H
 go_enter Tryz.func127,Tryz.ntmps127
 go_upto_region 2 with (first|((with_reducible refine aA (f:=138) rfl ?_);refine aH (some 9) rfl rfl Tryz.func138 (by kernel_rfl) rfl #[.slice A0 l0.length c0] rfl zL ?_;(with_reducible refine (jX.calls k _ _ l0 t193 _ ?iI ?iJ A2.out).mono ?_);(case iI=>repeat (first|exact HR0.out|(with_reducible refine Kd.je ?_ _)|(with_reducible refine Kd.jC ?_ _)|(with_reducible refine Kd.kD ?_)));(case iJ=>exact HC0.out);rintro e w4 ⟨rfl,hb⟩;refine ⟨_,rfl,?_⟩;replace HB:=aj.mk (ak zB hb);(try clear hb)))
 (try simp only [Act.put,List.setIfInBounds_toArray,List.set_cons_zero,List.set_cons_succ])
 go_cut [26] (fun v26 wc=>∃ (kq:Nat) (aa0:Bool),v26 = .bool aa0∧aj (fJ.j0 kq l0 t193 aa0=some (r1,r2))∧aj (kq≤k)∧aj (Below w.heap.size w wc))
 case first =>
  have H:=HC3.out
  clear HC3
  by_cases c5:((l0.length:Int) % 2)=0
  ·rw [if_pos c5] at H
   have iL:(((l0.length:Int) % 2) == 0)=true:=beq_iff_eq.mpr c5
   have abt:(((l0.length:Int) % 2) != 0)=false:=bne_eq_false_iff_eq.mpr c5
   clear c5
   (first|rw [iL]|(simp only [bZ,dA];rw [iL])|skip)
   have H':=aj.mk H
   clear H
   go_wp2
   go_meet
   case rel=>exact ⟨_,(true),zT,H',⟨by first|omega|exact Nat.le_refl _⟩,⟨zB⟩⟩
  ·rw [if_neg c5] at H
   have iL:(((l0.length:Int) % 2) == 0)=false:=beq_eq_false_iff_ne.mpr c5
   have abt:(((l0.length:Int) % 2) != 0)=true:=bne_iff_ne.mpr c5
   (first|rw [iL]|(simp only [bZ,dA];rw [iL])|skip)
   by_cases c6:(l0.length:Int) > 1024
   ·rw [if_pos c6] at H
    have iw:=decide_eq_true c6
    have um:decide (1024 < l0.length)=true:=decide_eq_true (by omega)
    clear c6
    have H':=aj.mk H
    clear H
    go_wp2
    go_meet
    case rel=>exact ⟨_,(true),zT,H',⟨by first|omega|exact Nat.le_refl _⟩,⟨zB⟩⟩
   ·rw [if_neg c6] at H
    have iw:=decide_eq_false c6
    have um:decide (1024 < l0.length)=false:=decide_eq_false (by omega)
    clear c6
    by_cases c7:t193 < 1
    ·rw [if_pos c7] at H
     have jr:=decide_eq_true c7
     clear c7
     have H':=aj.mk H
     clear H
     go_wp2
     go_meet
     case rel=>exact ⟨_,(true),zT,H',⟨by first|omega|exact Nat.le_refl _⟩,⟨zB⟩⟩
    ·rw [if_neg c7] at H
     have jr:=decide_eq_false c7
     clear c7
     have H':=aj.mk H
     clear H
     go_wp2
     go_meet
     case rel=>exact ⟨_,(decide (t193 > 1048576)),zT,H',⟨by first|omega|exact Nat.le_refl _⟩,⟨zB⟩⟩
 case rest =>
  clear HC3
  obtain ⟨kq,aa0,rfl,HA,HJ2,HB⟩:=hcut
  cases kq with
  | zero=>exact absurd HA.out (by simp [fJ.j0])
  | succ kj2 =>
   have H:=HA.out
   clear HA
   simp only [fJ.j0] at H
   by_cases c8:aa0=true
   ·subst c8
    rw [if_pos rfl] at H;try dsimp only at H
    simp only [Option.some.injEq,Prod.mk.injEq] at H
    obtain ⟨rfl,rfl⟩:=H
    go_wp2
    go_ret2
    exact ⟨_,zS,by first|exact Kd.jZ _ _ _ _ _|exact Kd.oI _ _ _ _ _|exact Kd.nD _ _ _ _ _|exact Kd.oJ _ _ _ _ _|exact Kd.ou _ _ _ _ _,zB⟩
   ·replace c8:=Bool.eq_false_iff.mpr c8
    subst c8
    rw [if_neg (show ¬ (false=true) by decide)] at H;try dsimp only at H
    have H':=aj.mk H
    clear H
    go_wp2
    go_loopg [5,29] kj2 (fun kq v5 v29 w'=>∃ (lS:List Int) (lI:Int),v29 = .int .i64 lI∧aj (fJ.l0 kq t193 lS l0 (l0.length:Int) lI=some (r1,r2))∧aj (kq≤kj2)∧aj (Kd.R (Kd.int .i64) 2 w' w.heap.size (fun _=>True) v5 lS)∧aj (Below w.heap.size w w'))
    case atStart=>exact ⟨(([]:List Int)),(0),zT,H',⟨Nat.le_refl _⟩,⟨by first|exact Kd.jZ _ _ _ _ _|exact Kd.oI _ _ _ _ _|exact Kd.nD _ _ _ _ _|exact Kd.oJ _ _ _ _ _|exact Kd.ou _ _ _ _ _⟩,⟨zB⟩⟩
    case round =>
     clear H'
     obtain ⟨lS,lI,rfl,HA,HK2,wF,HB⟩:=hrel
     cases gk with
     | zero=>exact absurd HA.out (by simp [fJ.l0])
     | succ k2 =>
      have H:=HA.out
      clear HA
      simp only [fJ.l0] at H
      by_cases c9:lI < (l0.length:Int)
      ·rw [if_pos c9] at H
       have qJ:=decide_eq_true c9
       clear c9
       by_cases c10:0≤lI
       ·rw [if_pos c10] at H
        have pR:=decide_eq_true c10
        clear c10
        by_cases c11:lI < (l0.length:Int)
        ·rw [if_pos c11] at H
         have iO:=decide_eq_true c11
         clear c11
         replace H:=zO H
         obtain ⟨ahT,A12,H⟩:=H
         try dsimp only at H
         by_cases c13:lS.length < 17592186044416
         ·rw [if_pos c13] at H
          have auP:=aj.mk c13
          clear c13
          obtain ⟨asT,agW⟩:∃ y_:List Int,y_=(lS ++ [ahT]):=⟨_,rfl⟩
          replace H:(fJ.l0 k2 t193 asT l0 (l0.length:Int) (wrap64 (lI+1)))=some (r1,r2):=by first|(rw [agW];with_reducible exact H)|(have H2_:=(Option.bind_some _ _).symm.trans H;rw [agW];with_reducible exact H2_)|(have H2_:=(Option.bind_some _ _).symm.trans H;with_reducible exact H2_)|with_reducible exact H|(rw [agW];exact H)|exact H
          have auQ:=aj.mk agW
          clear agW
          have H':=aj.mk H
          clear H
          have apR:0≤(lI:Int):=of_decide_eq_true (by first|(with_reducible assumption)|assumption)
          have apS:lI < (l0.length:Int):=of_decide_eq_true (by first|(with_reducible assumption)|assumption)
          obtain ⟨aAj,av7,ahU⟩:=Kd.jD HR0.out lI apR apS
          cases av7
          replace ahU:=(HB.out.cell (World.block_lt_of_cell? w _ ahU)).trans ahU
          replace apR:=eq_true apR
          replace apS:=eq_true apS
          go_wp2_with (first|((with_reducible refine aA (f:=130) rfl ?_);refine aH (some 36) rfl rfl Tryz.func130 (by kernel_rfl) rfl #[.int .i64 (rd l0 lI),.int .i64 1073741824,.int .i64 t193] rfl zL ?_;(with_reducible refine (aZ.calls k2 (rd l0 lI) 1073741824 t193 ahT _ A12.out).mono ?_);rintro e w' ⟨rfl,⟨nd,rfl⟩⟩;refine ⟨_,rfl,?_⟩)|((with_reducible refine jE (b := .append) (xs := #[.tmp 33,.tmp 37]) rfl ?_);(try (refine ku (by rfl) ?_;dsimp only));at_builtin;refine Kd.kT (Kd.int .i64) (w0:=w) w.heap.size rfl (.tmp 33) (.tmp 37) 44 2 (.int .i64 0) 8 rfl Tryz.underlying44 vH rfl (by decide) (by omega) u5 lS ahT [.int .i64 ahT] (fun _=>True) (fun _=>False) rfl rfl ?aP (fun _ hk=>hk.elim) ?aF ?aO ?aB ?aS ?aL ?_;(case aP=>exact rfl);(case aB=>exact zB);(case aF=>exact (fun _ _=>trivial));(case aO=>exact (by (with_reducible repeat (first|apply Kd.aK|apply Kd.aQ|apply Kd.aW));exact wF.out));(case aS=>exact (bF zB));(case aL=>have:=auP.out;omega);intro aBa w14 ho hb hg hat;rw [← auQ.out] at ho;obtain ⟨HB,auR⟩:=zA2 hb ho;clear ho hb hg hat))
          go_roundg k2
          case measure=>have:=HJ2.out;have:=HK2.out;omega
          case rel=>exact ⟨(asT),(wrap64 (lI+1)),zT,H',⟨by have:=HJ2.out;have:=HK2.out;omega⟩,⟨by (with_reducible repeat (first|apply Kd.aK|apply Kd.aQ|apply Kd.aW));exact auR.out⟩,⟨zB⟩⟩
         ·rw [if_neg c13] at H
          exact absurd H (by simp)
        ·rw [if_neg c11] at H
         exact absurd H (by simp)
       ·rw [if_neg c10] at H
        exact absurd H (by simp)
      ·rw [if_neg c9] at H
       have qJ:=decide_eq_false c9
       clear c9
       simp only [Option.some.injEq,Prod.mk.injEq] at H
       obtain ⟨rfl,rfl⟩:=H
       go_wp2
       go_ret2
       exact ⟨_,zS,by (with_reducible repeat (first|apply Kd.aK|apply Kd.aQ|apply Kd.aW));exact wF.out,zB⟩
end Go.Proofs.YtpondkggmcmpfaaGreatDoor.QA
namespace Go.Proofs.YtpondkggmcmpfaaGreatDoor.QA
open Go.Proofs.YtpondkggmcmpfaaGreatDoor.T
open Go.RowKit Go.Proofs.YtpondkggmcmpfaaGreatDoorW.PrintWords Go.Proofs.YtpondkggmcmpfaaGreatDoorW.PrintLast Go.Proofs.YtpondkggmcmpfaaGreatDoorW.PrintMore
attribute [local go_sem] dV dQ dR eP eX
set_option linter.unusedVariables false
set_option linter.unusedSimpArgs false
def bC.f (a0:Int):Option (Bool):=if a0≥1 then (some (decide (a0≤65536))) else (some false)
set_option maxHeartbeats 8000000 in
set_option maxRecDepth 100000 in
theorem bC.calls (a0:Int) (r:Bool) (w:World) (h:bC.f a0=some r) :
  Calls Tryz.prog 92 #[.int .i64 a0] w fun e w'=>e = .returned (.bool r)∧dw w w':=by
 have H:=h
 clear h
 unfold bC.f at H
 by_cases c2:a0≥1
 ·rw [if_pos c2] at H
  have lQ:=decide_eq_true c2
  clear c2
  obtain rfl:=Option.some.inj H
  go_enter Tryz.func92,Tryz.ntmps92
  go_wp2
  go_ret
  exact ⟨by first|rfl|(simp;done)|(simp [*];done)|(simp [Int.tdiv_eq_ediv_of_nonneg (show (0:Int)≤268435456 by decide)];done),zW⟩
 ·rw [if_neg c2] at H
  have lQ:=decide_eq_false c2
  clear c2
  obtain rfl:=Option.some.inj H
  go_enter Tryz.func92,Tryz.ntmps92
  go_wp2
  go_ret
  exact ⟨by first|rfl|(simp;done)|(simp [*];done)|(simp [Int.tdiv_eq_ediv_of_nonneg (show (0:Int)≤268435456 by decide)];done),zW⟩
def iG.f (a0:Int):Option (Bool):=if a0≥1 then (some (decide (a0≤65536))) else (some false)
set_option maxHeartbeats 8000000 in
set_option maxRecDepth 100000 in
theorem iG.calls (a0:Int) (r:Bool) (w:World) (h:iG.f a0=some r) :
  Calls Tryz.prog 113 #[.int .i64 a0] w fun e w'=>e = .returned (.bool r)∧dw w w':=by
 have H:=h
 clear h
 unfold iG.f at H
 by_cases c2:a0≥1
 ·rw [if_pos c2] at H
  have lQ:=decide_eq_true c2
  clear c2
  obtain rfl:=Option.some.inj H
  go_enter Tryz.func113,Tryz.ntmps113
  go_wp2
  go_ret
  exact ⟨by first|rfl|(simp;done)|(simp [*];done)|(simp [Int.tdiv_eq_ediv_of_nonneg (show (0:Int)≤268435456 by decide)];done),zW⟩
 ·rw [if_neg c2] at H
  have lQ:=decide_eq_false c2
  clear c2
  obtain rfl:=Option.some.inj H
  go_enter Tryz.func113,Tryz.ntmps113
  go_wp2
  go_ret
  exact ⟨by first|rfl|(simp;done)|(simp [*];done)|(simp [Int.tdiv_eq_ediv_of_nonneg (show (0:Int)≤268435456 by decide)];done),zW⟩
end Go.Proofs.YtpondkggmcmpfaaGreatDoor.QA
namespace Go.Proofs.YtpondkggmcmpfaaGreatDoor.QA
open Go.Proofs.YtpondkggmcmpfaaGreatDoor.T
open Go.RowKit Go.Proofs.YtpondkggmcmpfaaGreatDoorW.PrintWords Go.Proofs.YtpondkggmcmpfaaGreatDoorW.PrintLast Go.Proofs.YtpondkggmcmpfaaGreatDoorW.PrintMore
attribute [local go_sem] dV dQ dR eP eX
set_option linter.unusedVariables false
set_option linter.unusedSimpArgs false
def kN.f (a0 a1 a2 a3:Int):Option (Bool):=if a0≥0 then (if a0≤2 then (if a1≥1 then (if a1≤65536 then (if a2≥1 then (if a2≤65536 then (if a3≥0 then (some (decide (a3 < a2))) else (some false)) else (some false)) else (some false)) else (some false)) else (some false)) else (some false)) else (some false)
set_option maxHeartbeats 8000000 in
set_option maxRecDepth 100000 in
theorem kN.calls (a0 a1 a2 a3:Int) (r:Bool) (w:World) (h:kN.f a0 a1 a2 a3=some r) :
  Calls Tryz.prog 139 #[.int .i64 a0,.int .i64 a1,.int .i64 a2,.int .i64 a3] w fun e w'=>e = .returned (.bool r)∧dw w w':=by
 have H:=h
 clear h
 unfold kN.f at H
 by_cases c5:a0≥0
 ·rw [if_pos c5] at H
  have iL:=decide_eq_true c5
  clear c5
  by_cases c6:a0≤2
  ·rw [if_pos c6] at H
   have iw:=decide_eq_true c6
   clear c6
   by_cases c7:a1≥1
   ·rw [if_pos c7] at H
    have jr:=decide_eq_true c7
    clear c7
    by_cases c8:a1≤65536
    ·rw [if_pos c8] at H
     have vT:=decide_eq_true c8
     clear c8
     by_cases c9:a2≥1
     ·rw [if_pos c9] at H
      have qJ:=decide_eq_true c9
      clear c9
      by_cases c10:a2≤65536
      ·rw [if_pos c10] at H
       have pR:=decide_eq_true c10
       clear c10
       by_cases c11:a3≥0
       ·rw [if_pos c11] at H
        have iO:=decide_eq_true c11
        clear c11
        obtain rfl:=Option.some.inj H
        go_enter Tryz.func139,Tryz.ntmps139
        go_wp2
        go_ret
        exact ⟨zT,zW⟩
       ·rw [if_neg c11] at H
        have iO:=decide_eq_false c11
        clear c11
        obtain rfl:=Option.some.inj H
        go_enter Tryz.func139,Tryz.ntmps139
        go_wp2
        go_ret
        exact ⟨zT,zW⟩
      ·rw [if_neg c10] at H
       have pR:=decide_eq_false c10
       clear c10
       obtain rfl:=Option.some.inj H
       go_enter Tryz.func139,Tryz.ntmps139
       go_wp2
       go_ret
       exact ⟨zT,zW⟩
     ·rw [if_neg c9] at H
      have qJ:=decide_eq_false c9
      clear c9
      obtain rfl:=Option.some.inj H
      go_enter Tryz.func139,Tryz.ntmps139
      go_wp2
      go_ret
      exact ⟨zT,zW⟩
    ·rw [if_neg c8] at H
     have vT:=decide_eq_false c8
     clear c8
     obtain rfl:=Option.some.inj H
     go_enter Tryz.func139,Tryz.ntmps139
     go_wp2
     go_ret
     exact ⟨zT,zW⟩
   ·rw [if_neg c7] at H
    have jr:=decide_eq_false c7
    clear c7
    obtain rfl:=Option.some.inj H
    go_enter Tryz.func139,Tryz.ntmps139
    go_wp2
    go_ret
    exact ⟨zT,zW⟩
  ·rw [if_neg c6] at H
   have iw:=decide_eq_false c6
   clear c6
   obtain rfl:=Option.some.inj H
   go_enter Tryz.func139,Tryz.ntmps139
   go_wp2
   go_ret
   exact ⟨zT,zW⟩
 ·rw [if_neg c5] at H
  have iL:=decide_eq_false c5
  clear c5
  obtain rfl:=Option.some.inj H
  go_enter Tryz.func139,Tryz.ntmps139
  go_wp2
  go_ret
  exact ⟨zT,zW⟩
def fM.f (a0 a1 a2 a3:Int):Option (Int × Int):=if a1 > a0 then (some (wrap64 ((wrap64 ((wrap64 ((wrap64 (2*a1))*a3)) - (wrap64 ((wrap64 ((wrap64 (2*a2))+1))*a0))))+a1),wrap64 (2*a1))) else (some (wrap64 ((wrap64 ((wrap64 ((wrap64 (2*a1))*a3)) - (wrap64 ((wrap64 ((wrap64 (2*a2))+1))*a0))))+a1),wrap64 (2*a0)))
set_option maxHeartbeats 8000000 in
set_option maxRecDepth 100000 in
theorem fM.calls (a0 a1 a2 a3 r1 r2:Int) (w:World) (h:fM.f a0 a1 a2 a3=some (r1,r2)) :
  Calls Tryz.prog 169 #[.int .i64 a0,.int .i64 a1,.int .i64 a2,.int .i64 a3] w fun e w'=>e = .returned (.tuple #[.int .i64 r1,.int .i64 r2])∧dw w w':=by
 have H:=h
 clear h
 unfold fM.f at H
 by_cases c5:a1 > a0
 ·rw [if_pos c5] at H
  have iL:=decide_eq_true c5
  clear c5
  simp only [Option.some.injEq,Prod.mk.injEq] at H
  obtain ⟨rfl,rfl⟩:=H
  go_enter Tryz.func169,Tryz.ntmps169
  go_wp2
  go_ret2
  exact ⟨zT,zW⟩
 ·rw [if_neg c5] at H
  have iL:=decide_eq_false c5
  clear c5
  simp only [Option.some.injEq,Prod.mk.injEq] at H
  obtain ⟨rfl,rfl⟩:=H
  go_enter Tryz.func169,Tryz.ntmps169
  go_wp2
  go_ret2
  exact ⟨zT,zW⟩
def iU.f (a0 a1 a2 a3 a4:Int):Option (Bool):=if a0=0 then (if (wrap64 ((wrap64 (a4+1))*a2)) > (wrap64 (a3*a1)) then (some (decide ((wrap64 (a4*a2)) < (wrap64 ((wrap64 (a3+1))*a1))))) else (some false)) else ((fM.f a1 a2 a3 a4).bind fun abW=>(if a0=2 then (if abW.1 < (wrap64 (3*abW.2)) then (some (decide (abW.1 > (wrap64 (-(wrap64 (3*abW.2))))))) else (some false)) else (if abW.1 < (wrap64 (2*abW.2)) then (some (decide (abW.1 > (wrap64 (-(wrap64 (2*abW.2))))))) else (some false))))
set_option maxHeartbeats 8000000 in
set_option maxRecDepth 100000 in
theorem iU.calls (a0 a1 a2 a3 a4:Int) (r:Bool) (w:World) (h:iU.f a0 a1 a2 a3 a4=some r) :
  Calls Tryz.prog 140 #[.int .i64 a0,.int .i64 a1,.int .i64 a2,.int .i64 a3,.int .i64 a4] w fun e w'=>e = .returned (.bool r)∧dw w w':=by
 have H:=h
 clear h
 unfold iU.f at H
 by_cases c6:a0=0
 ·rw [if_pos c6] at H
  have iw:(a0 == 0)=true:=beq_iff_eq.mpr c6
  have um:(a0 != 0)=false:=bne_eq_false_iff_eq.mpr c6
  clear c6
  by_cases c7:(wrap64 ((wrap64 (a4+1))*a2)) > (wrap64 (a3*a1))
  ·rw [if_pos c7] at H
   have jr:=decide_eq_true c7
   clear c7
   obtain rfl:=Option.some.inj H
   go_enter Tryz.func140,Tryz.ntmps140
   go_wp2
   go_ret
   exact ⟨zT,zW⟩
  ·rw [if_neg c7] at H
   have jr:=decide_eq_false c7
   clear c7
   obtain rfl:=Option.some.inj H
   go_enter Tryz.func140,Tryz.ntmps140
   go_wp2
   go_ret
   exact ⟨zT,zW⟩
 ·rw [if_neg c6] at H
  have iw:(a0 == 0)=false:=beq_eq_false_iff_ne.mpr c6
  have um:(a0 != 0)=true:=bne_iff_ne.mpr c6
  replace H:=zO H
  obtain ⟨⟨ahV,ahW⟩,A8,H⟩:=H
  try dsimp only at H
  by_cases c9:a0=2
  ·rw [if_pos c9] at H
   have qJ:(a0 == 2)=true:=beq_iff_eq.mpr c9
   have afl:(a0 != 2)=false:=bne_eq_false_iff_eq.mpr c9
   clear c9
   by_cases c10:ahV < (wrap64 (3*ahW))
   ·rw [if_pos c10] at H
    have pR:=decide_eq_true c10
    clear c10
    obtain rfl:=Option.some.inj H
    go_enter Tryz.func140,Tryz.ntmps140
    go_wp2_with (first|((with_reducible refine aA (f:=169) rfl ?_);refine aH (some 39) rfl rfl Tryz.func169 (by kernel_rfl) rfl #[.int .i64 a1,.int .i64 a2,.int .i64 a3,.int .i64 a4] rfl zL ?_;(with_reducible refine (fM.calls a1 a2 a3 a4 ahV ahW _ A8.out).mono ?_);rintro e w' ⟨rfl,⟨nd,rfl⟩⟩;refine ⟨_,rfl,?_⟩))
    go_ret
    exact ⟨zT,zW⟩
   ·rw [if_neg c10] at H
    have pR:=decide_eq_false c10
    clear c10
    obtain rfl:=Option.some.inj H
    go_enter Tryz.func140,Tryz.ntmps140
    go_wp2_with (first|((with_reducible refine aA (f:=169) rfl ?_);refine aH (some 39) rfl rfl Tryz.func169 (by kernel_rfl) rfl #[.int .i64 a1,.int .i64 a2,.int .i64 a3,.int .i64 a4] rfl zL ?_;(with_reducible refine (fM.calls a1 a2 a3 a4 ahV ahW _ A8.out).mono ?_);rintro e w' ⟨rfl,⟨nd,rfl⟩⟩;refine ⟨_,rfl,?_⟩))
    go_ret
    exact ⟨zT,zW⟩
  ·rw [if_neg c9] at H
   have qJ:(a0 == 2)=false:=beq_eq_false_iff_ne.mpr c9
   have afl:(a0 != 2)=true:=bne_iff_ne.mpr c9
   by_cases c11:ahV < (wrap64 (2*ahW))
   ·rw [if_pos c11] at H
    have iO:=decide_eq_true c11
    clear c11
    obtain rfl:=Option.some.inj H
    go_enter Tryz.func140,Tryz.ntmps140
    go_wp2_with (first|((with_reducible refine aA (f:=169) rfl ?_);refine aH (some 39) rfl rfl Tryz.func169 (by kernel_rfl) rfl #[.int .i64 a1,.int .i64 a2,.int .i64 a3,.int .i64 a4] rfl zL ?_;(with_reducible refine (fM.calls a1 a2 a3 a4 ahV ahW _ A8.out).mono ?_);rintro e w' ⟨rfl,⟨nd,rfl⟩⟩;refine ⟨_,rfl,?_⟩))
    go_ret
    exact ⟨zT,zW⟩
   ·rw [if_neg c11] at H
    have iO:=decide_eq_false c11
    clear c11
    obtain rfl:=Option.some.inj H
    go_enter Tryz.func140,Tryz.ntmps140
    go_wp2_with (first|((with_reducible refine aA (f:=169) rfl ?_);refine aH (some 39) rfl rfl Tryz.func169 (by kernel_rfl) rfl #[.int .i64 a1,.int .i64 a2,.int .i64 a3,.int .i64 a4] rfl zL ?_;(with_reducible refine (fM.calls a1 a2 a3 a4 ahV ahW _ A8.out).mono ?_);rintro e w' ⟨rfl,⟨nd,rfl⟩⟩;refine ⟨_,rfl,?_⟩))
    go_ret
    exact ⟨zT,zW⟩
def dL.f (a0:Int):Option (Int):=if a0 < 0 then (some (IntKind.u64.wrap ((IntKind.u64.wrap (wrap64 (-(wrap64 (a0+1)))))+1))) else (some (IntKind.u64.wrap (a0)))
set_option maxHeartbeats 8000000 in
set_option maxRecDepth 100000 in
theorem dL.calls (a0 r:Int) (w:World) (h:dL.f a0=some r) :
  Calls Tryz.prog 120 #[.int .i64 a0] w fun e w'=>e = .returned (.int .u64 r)∧dw w w':=by
 have H:=h
 clear h
 unfold dL.f at H
 by_cases c2:a0 < 0
 ·rw [if_pos c2] at H
  have lQ:=decide_eq_true c2
  clear c2
  obtain rfl:=Option.some.inj H
  go_enter Tryz.func120,Tryz.ntmps120
  go_wp2
  go_ret
  exact ⟨zT,zW⟩
 ·rw [if_neg c2] at H
  have lQ:=decide_eq_false c2
  clear c2
  obtain rfl:=Option.some.inj H
  go_enter Tryz.func120,Tryz.ntmps120
  go_wp2
  go_ret
  exact ⟨zT,zW⟩
def dI.f (bJ dB a1:Int):Option (Int × Int):=some (IntKind.u64.wrap ((IntKind.u64.wrap (bJ*2))+(dB / 9223372036854775808)),IntKind.u64.wrap ((IntKind.u64.wrap (dB*2))+a1))
set_option maxHeartbeats 8000000 in
set_option maxRecDepth 100000 in
theorem dI.calls (bJ dB a1 r1 r2:Int) (w:World) (h:dI.f bJ dB a1=some (r1,r2)) :
  Calls Tryz.prog 119 #[.agg #[.int .u64 bJ,.int .u64 dB],.int .u64 a1] w fun e w'=>e = .returned (.agg #[.int .u64 r1,.int .u64 r2])∧Below w.heap.size w w':=by
 have xB:=Tryz.underlying179
 have HB:=aj.mk (Below.refl w.heap.size w)
 have H:=h
 clear h
 unfold dI.f at H
 simp only [Option.some.injEq,Prod.mk.injEq] at H
 obtain ⟨rfl,rfl⟩:=H
 go_enter Tryz.func119,Tryz.ntmps119
 go_wp2_with (first|((with_reducible refine bM (N:=2) rfl ?_);refine bU zR (N:=2) zR (cs := #[.int .u64 bJ,.int .u64 dB]) (t:=179) zG ?_;intro aAk hg w3 hbox hb;obtain ⟨HB,aeS,aAl,aAm⟩:=zA4 (ak zB hb) hbox (zg hg zB) (zg hg zB);clear hb hbox hg)|((with_reducible refine bM (N:=4) rfl ?_);refine bU zR (N:=4) zR (cs := #[.int .u64 0,.int .u64 0]) (t:=179) zG ?_;intro auS hg w4 hbox hb;obtain ⟨aeS,HB,am0,aAn,aAo,anS,anT⟩:=zA7 (ay (zK aeS) hb) (ak zB hb) hbox (zg hg zB) (zg hg zB) (zl hg (zK aeS)) (zr hg (zK aeS));clear hb hbox hg;have av8:=anS.out;have av9:=anT.out;obtain ⟨_,_⟩:=zC2 aeS.out;obtain ⟨_,_⟩:=zF2 aeS.out;obtain ⟨_,_⟩:=zC2 am0.out;obtain ⟨_,_⟩:=zF2 am0.out))
 refine bodyPost_ret (results_cell_row rfl _ _ auS 179 #[.int .u64 (IntKind.u64.wrap ((IntKind.u64.wrap (bJ*2))+(dB / 9223372036854775808))),.int .u64 (IntKind.u64.wrap ((IntKind.u64.wrap (dB*2))+a1))] (0,0) _ rfl (by refine zD ?_;refine aY (cs := #[.int .u64 (IntKind.u64.wrap ((IntKind.u64.wrap (bJ*2))+(dB / 9223372036854775808))),.int .u64 0]) ?_ 1 _ rfl;refine zD ?_;refine aY (cs := #[.int .u64 0,.int .u64 0]) ?_ 0 _ rfl;refine zD ?_;exact am0.out) Tryz.underlying179 rfl (by kernel_rfl)) rfl ?_
 exact ⟨zS,zB⟩
def gI.f (bJ dB kP nK:Int):Option (Int × Int):=if (IntKind.u64.wrap (dB+nK)) < dB then (some (IntKind.u64.wrap ((IntKind.u64.wrap (bJ+kP))+1),IntKind.u64.wrap (dB+nK))) else (some (IntKind.u64.wrap (bJ+kP),IntKind.u64.wrap (dB+nK)))
set_option maxHeartbeats 8000000 in
set_option maxRecDepth 100000 in
theorem gI.calls (bJ dB kP nK r1 r2:Int) (w:World) (h:gI.f bJ dB kP nK=some (r1,r2)) :
  Calls Tryz.prog 124 #[.agg #[.int .u64 bJ,.int .u64 dB],.agg #[.int .u64 kP,.int .u64 nK]] w fun e w'=>e = .returned (.agg #[.int .u64 r1,.int .u64 r2])∧Below w.heap.size w w':=by
 have xB:=Tryz.underlying179
 have HB:=aj.mk (Below.refl w.heap.size w)
 have H:=h
 clear h
 unfold gI.f at H
 by_cases c3:(IntKind.u64.wrap (dB+nK)) < dB
 ·rw [if_pos c3] at H
  have fO:=decide_eq_true c3
  clear c3
  simp only [Option.some.injEq,Prod.mk.injEq] at H
  obtain ⟨rfl,rfl⟩:=H
  go_enter Tryz.func124,Tryz.ntmps124
  go_wp2_with (first|((with_reducible refine bM (N:=2) rfl ?_);refine bU zR (N:=2) zR (cs := #[.int .u64 bJ,.int .u64 dB]) (t:=179) zG ?_;intro auT hg w4 hbox hb;obtain ⟨HB,jT,auU,auV⟩:=zA4 (ak zB hb) hbox (zg hg zB) (zg hg zB);clear hb hbox hg)|((with_reducible refine bM (N:=3) rfl ?_);refine bU zR (N:=3) zR (cs := #[.int .u64 kP,.int .u64 nK]) (t:=179) zG ?_;intro auW hg w5 hbox hb;obtain ⟨jT,HB,oL,auX,auY,aej,aek⟩:=zA7 (ay (zK jT) hb) (ak zB hb) hbox (zg hg zB) (zg hg zB) (zl hg (zK jT)) (zr hg (zK jT));clear hb hbox hg)|((with_reducible refine bM (N:=4) rfl ?_);refine bU zR (N:=4) zR (cs := #[.int .u64 0,.int .u64 0]) (t:=179) zG ?_;intro am1 hg w6 hbox hb;obtain ⟨jT,oL,HB,uJ,auZ,au0,ael,aem,aen,aeo⟩:=adA (ay (zK jT) hb) (ay (zK oL) hb) (ak zB hb) hbox (zg hg zB) (zg hg zB) (zl hg (zK jT)) (zr hg (zK jT)) (zl hg (zK oL)) (zr hg (zK oL));clear hb hbox hg;have ar0:=aej.out;have ar1:=aek.out;have ar2:=ael.out;have ar4:=aem.out;obtain ⟨_,_⟩:=zC2 jT.out;obtain ⟨_,_⟩:=zF2 jT.out;have ati:=aen.out;have atj:=aeo.out;obtain ⟨_,_⟩:=zC2 oL.out;obtain ⟨_,_⟩:=zF2 oL.out)|((with_reducible refine bM (N:=5) rfl ?_);refine bU zR (N:=5) zR (cs := #[.int .u64 0,.int .u64 0]) (t:=179) zG ?_;intro au1 hg w12 hbox hb;obtain ⟨jT,oL,uJ,HB,agX,au2,au3,aep,aer,aes,aeu,ug,aev⟩:=afh (ay (zK jT) hb) (ay (zK oL) hb) (ay (zK uJ) hb) (ak zB hb) hbox (zg hg zB) (zg hg zB) (zl hg (zK jT)) (zr hg (zK jT)) (zl hg (zK oL)) (zr hg (zK oL)) (zl hg (zK uJ)) (zr hg (zK uJ));clear hb hbox hg;have al4:=aer.out;have al5:=aep.out;have aqe:=aeu.out;have aqf:=aes.out;have ato:=aev.out;have atp:=ug.out;obtain ⟨_,_⟩:=zC2 agX.out;obtain ⟨_,_⟩:=zF2 agX.out;obtain ⟨_,_⟩:=zC2 jT.out;obtain ⟨_,_⟩:=zF2 jT.out;obtain ⟨_,_⟩:=zC2 uJ.out;obtain ⟨_,_⟩:=zF2 uJ.out))
  refine bodyPost_ret (results_cell_row rfl _ _ am1 179 #[.int .u64 (IntKind.u64.wrap ((IntKind.u64.wrap (bJ+kP))+1)),.int .u64 (IntKind.u64.wrap (dB+nK))] (0,0) _ rfl (by refine zD ?_;refine aY (cs := #[.int .u64 (IntKind.u64.wrap ((IntKind.u64.wrap (bJ+kP))+1)),.int .u64 0]) ?_ 1 _ rfl;refine zD ?_;refine aY (cs := #[.int .u64 0,.int .u64 0]) ?_ 0 _ rfl;refine zD ?_;refine iH ?_ ug.out _;refine zD ?_;refine iH ?_ ug.out _;refine zD ?_;refine iH ?_ ug.out _;refine zD ?_;exact uJ.out) Tryz.underlying179 rfl (by kernel_rfl)) rfl ?_
  exact ⟨zS,zB⟩
 ·rw [if_neg c3] at H
  have fO:=decide_eq_false c3
  clear c3
  simp only [Option.some.injEq,Prod.mk.injEq] at H
  obtain ⟨rfl,rfl⟩:=H
  go_enter Tryz.func124,Tryz.ntmps124
  go_wp2_with (first|((with_reducible refine bM (N:=2) rfl ?_);refine bU zR (N:=2) zR (cs := #[.int .u64 bJ,.int .u64 dB]) (t:=179) zG ?_;intro auT hg w19 hbox hb;obtain ⟨HB,jT,auU,auV⟩:=zA4 (ak zB hb) hbox (zg hg zB) (zg hg zB);clear hb hbox hg)|((with_reducible refine bM (N:=3) rfl ?_);refine bU zR (N:=3) zR (cs := #[.int .u64 kP,.int .u64 nK]) (t:=179) zG ?_;intro auW hg w20 hbox hb;obtain ⟨jT,HB,oL,auX,auY,aej,aek⟩:=zA7 (ay (zK jT) hb) (ak zB hb) hbox (zg hg zB) (zg hg zB) (zl hg (zK jT)) (zr hg (zK jT));clear hb hbox hg)|((with_reducible refine bM (N:=4) rfl ?_);refine bU zR (N:=4) zR (cs := #[.int .u64 0,.int .u64 0]) (t:=179) zG ?_;intro am1 hg w21 hbox hb;obtain ⟨jT,oL,HB,uJ,auZ,au0,ael,aem,aen,aeo⟩:=adA (ay (zK jT) hb) (ay (zK oL) hb) (ak zB hb) hbox (zg hg zB) (zg hg zB) (zl hg (zK jT)) (zr hg (zK jT)) (zl hg (zK oL)) (zr hg (zK oL));clear hb hbox hg;have aqj:=aej.out;have aqk:=aek.out;have al6:=ael.out;have al7:=aem.out;obtain ⟨_,_⟩:=zC2 jT.out;obtain ⟨_,_⟩:=zF2 jT.out;have atH:=aen.out;have atI:=aeo.out;obtain ⟨_,_⟩:=zC2 oL.out;obtain ⟨_,_⟩:=zF2 oL.out)|((with_reducible refine bM (N:=5) rfl ?_);refine bU zR (N:=5) zR (cs := #[.int .u64 0,.int .u64 0]) (t:=179) zG ?_;intro au1 hg w27 hbox hb;obtain ⟨jT,oL,uJ,HB,agX,au2,au3,aep,aer,aes,aeu,ug,aev⟩:=afh (ay (zK jT) hb) (ay (zK oL) hb) (ay (zK uJ) hb) (ak zB hb) hbox (zg hg zB) (zg hg zB) (zl hg (zK jT)) (zr hg (zK jT)) (zl hg (zK oL)) (zr hg (zK oL)) (zl hg (zK uJ)) (zr hg (zK uJ));clear hb hbox hg;have atZ:=aer.out;have at1:=aep.out;have al8:=aeu.out;have al9:=aes.out;have aqg:=aev.out;have aqh:=ug.out;obtain ⟨_,_⟩:=zC2 agX.out;obtain ⟨_,_⟩:=zF2 agX.out;obtain ⟨_,_⟩:=zC2 jT.out;obtain ⟨_,_⟩:=zF2 jT.out;obtain ⟨_,_⟩:=zC2 uJ.out;obtain ⟨_,_⟩:=zF2 uJ.out))
  refine bodyPost_ret (results_cell_row rfl _ _ am1 179 #[.int .u64 (IntKind.u64.wrap (bJ+kP)),.int .u64 (IntKind.u64.wrap (dB+nK))] (0,0) _ rfl (by refine zD ?_;refine aY (cs := #[.int .u64 (IntKind.u64.wrap (bJ+kP)),.int .u64 0]) ?_ 1 _ rfl;refine zD ?_;refine aY (cs := #[.int .u64 0,.int .u64 0]) ?_ 0 _ rfl;refine zD ?_;refine iH ?_ ug.out _;refine zD ?_;refine iH ?_ ug.out _;refine zD ?_;exact uJ.out) Tryz.underlying179 rfl (by kernel_rfl)) rfl ?_
  exact ⟨zS,zB⟩
end Go.Proofs.YtpondkggmcmpfaaGreatDoor.QA
namespace Go.Proofs.YtpondkggmcmpfaaGreatDoor.QA
open Go.Proofs.YtpondkggmcmpfaaGreatDoor.T
open Go.RowKit Go.Proofs.YtpondkggmcmpfaaGreatDoorW.PrintWords Go.Proofs.YtpondkggmcmpfaaGreatDoorW.PrintLast Go.Proofs.YtpondkggmcmpfaaGreatDoorW.PrintMore
attribute [local go_sem] dV dQ dR eP eX
set_option linter.unusedVariables false
set_option linter.unusedSimpArgs false
def dO.l0:Nat→Int→Int→Int→Int→Int→Option (Int × Int)
 | 0,_,_,_,_,_=>none
 | k+1,x0,x1,x6,alp,alq=>if x6≥0 then ((dI.f alp alq 0).bind fun ai4=>(if 0≤x6 then (if (Go.bits .and .u64 (shr .u64 x1 x6) 1)=1 then ((gI.f ai4.1 ai4.2 0 x0).bind fun agY=>(dO.l0 k x0 x1 (wrap64 (x6 - 1)) agY.1 agY.2)) else (dO.l0 k x0 x1 (wrap64 (x6 - 1)) ai4.1 ai4.2)) else (none))) else (some (alp,alq))
def dO.f (k:Nat) (a0 a1:Int):Option (Int × Int):=dO.l0 k a0 a1 63 0 0
set_option maxHeartbeats 8000000 in
set_option maxRecDepth 100000 in
theorem dO.calls (k:Nat) (a0 a1 r1 r2:Int) (w:World) (h:dO.f k a0 a1=some (r1,r2)) :
  Calls Tryz.prog 148 #[.int .u64 a0,.int .u64 a1] w fun e w'=>e = .returned (.agg #[.int .u64 r1,.int .u64 r2])∧Below w.heap.size w w':=by
 have xB:=Tryz.underlying179
 have HB:=aj.mk (Below.refl w.heap.size w)
 have H:=h
 clear h
 unfold dO.f at H
 have H':=aj.mk H
 clear H
 go_enter Tryz.func148,Tryz.ntmps148
 go_wp2_with (first|((with_reducible refine bM (N:=4) rfl ?_);refine bU zR (N:=4) zR (cs := #[.int .u64 0,.int .u64 0]) (t:=179) zG ?_;intro aqK hg w3 hbox hb;obtain ⟨HB,rP,aAp,aAq⟩:=zA4 (ak zB hb) hbox (zg hg zB) (zg hg zB);clear hb hbox hg)|((with_reducible refine bM (N:=5) rfl ?_);refine bU zR (N:=5) zR (cs := #[.int .u64 0,.int .u64 0]) (t:=179) zG ?_;intro aqL hg w4 hbox hb;obtain ⟨rP,HB,nH,aAr,aAs,abX,abY⟩:=zA7 (ay (zK rP) hb) (ak zB hb) hbox (zg hg zB) (zg hg zB) (zl hg (zK rP)) (zr hg (zK rP));clear hb hbox hg;have av8:=abY.out;have av9:=abX.out;obtain ⟨_,_⟩:=zC2 nH.out;obtain ⟨_,_⟩:=zF2 nH.out))
 go_loopg [6] k (fun kq v6 w'=>∃ (o8:Int) (o9:Int) (nY:Int),v6 = .int .i64 o8∧aj (dO.l0 kq a0 a1 o8 o9 nY=some (r1,r2))∧aj (kq≤k)∧aj (w'.heap[aqK]? = some (.cells #[.int .u64 0,.int .u64 0] 179 (0,0)))∧aj (w'.heap[aqL]? = some (.cells #[.int .u64 o9,.int .u64 nY] 179 (0,0)))∧aj (Below w.heap.size w w'))
 case atStart=>exact ⟨(63),(0),(0),zT,H',⟨Nat.le_refl _⟩,⟨zK rP⟩,⟨by refine zD ?_;refine aY (cs := #[.int .u64 0,.int .u64 0]) ?_ 1 _ rfl;refine zD ?_;refine aY (cs := #[.int .u64 0,.int .u64 0]) ?_ 0 _ rfl;refine zD ?_;exact nH.out⟩,⟨zB⟩⟩
 case round =>
  clear H'
  obtain ⟨o8,o9,nY,rfl,HA,HK1,rP,nH,HB⟩:=hrel
  cases gk with
  | zero=>exact absurd HA.out (by simp [dO.l0])
  | succ k1 =>
   have H:=HA.out
   clear HA
   simp only [dO.l0] at H
   by_cases c7:o8≥0
   ·rw [if_pos c7] at H
    have jr:=decide_eq_true c7
    clear c7
    replace H:=zO H
    obtain ⟨⟨abw,acg⟩,A8,H⟩:=H
    try dsimp only at H
    by_cases c9:0≤o8
    ·rw [if_pos c9] at H
     have qJ:=eq_true c9
     have afl:=decide_eq_true c9
     clear c9
     obtain ⟨dF,jJ⟩:∃ j_:Int,(shr .u64 a1 o8)=j_:=⟨_,rfl⟩
     replace H:(if (Go.bits .and .u64 (dF) 1)=1 then ((gI.f abw acg 0 a0).bind fun agY=>(dO.l0 k1 a0 a1 (wrap64 (o8 - 1)) agY.1 agY.2)) else (dO.l0 k1 a0 a1 (wrap64 (o8 - 1)) abw acg))=some (r1,r2):=by first|(rw [jJ] at H;exact H)|(simp only [jJ] at H ⊢;exact H)
     (try rw [jJ] at A8)
     have akj:(a1 / 2 ^ min o8.toNat 64)=dF:=jJ
     have anK:o8≤64→(a1 / 2 ^ o8.toNat)=dF:=oM jJ
     by_cases c11:(Go.bits .and .u64 (dF) 1)=1
     ·rw [if_pos c11] at H
      have iO:((Go.bits .and .u64 (dF) 1) == 1)=true:=beq_iff_eq.mpr c11
      have yE:((Go.bits .and .u64 (dF) 1) != 1)=false:=bne_eq_false_iff_eq.mpr c11
      clear c11
      replace H:=zO H
      obtain ⟨⟨apT,asU⟩,A12,H⟩:=H
      try dsimp only at H
      have H':=aj.mk H
      clear H
      have al4:=abY.out
      have al5:=abX.out
      obtain ⟨_,_⟩:=zC2 nH.out
      obtain ⟨_,_⟩:=zF2 nH.out
      go_wp2_with (first|((with_reducible refine aA (f:=119) rfl ?_);refine aH (some 13) rfl rfl Tryz.func119 (by kernel_rfl) rfl #[.agg #[.int .u64 o9,.int .u64 nY],.int .u64 0] rfl zL ?_;(with_reducible refine (dI.calls o9 nY 0 abw acg _ A8.out).mono ?_);rintro e w15 ⟨rfl,hb⟩;refine ⟨_,rfl,?_⟩;obtain ⟨rP,nH,HB⟩:=zA3 (ay (zK rP) hb) (ay (zK nH) hb) (ak zB hb);(try clear hb);obtain ⟨_,_⟩:=zC2 nH.out;obtain ⟨_,_⟩:=zF2 nH.out)|((with_reducible refine aA (f:=124) rfl ?_);refine aH (some 22) rfl rfl Tryz.func124 (by kernel_rfl) rfl #[.agg #[.int .u64 abw,.int .u64 acg],.agg #[.int .u64 0,.int .u64 a0]] rfl zL ?_;(with_reducible refine (gI.calls abw acg 0 a0 apT asU _ A12.out).mono ?_);rintro e w17 ⟨rfl,hb⟩;refine ⟨_,rfl,?_⟩;obtain ⟨rP,nH,HB⟩:=zA3 (ay (zK rP) hb) (ay (g:=aqL) (o := .cells #[.int .u64 abw,.int .u64 acg] 179 (0,0)) (by refine zD ?_;refine aY (cs := #[.int .u64 abw,.int .u64 nY]) ?_ 1 _ rfl;refine zD ?_;refine aY (cs := #[.int .u64 o9,.int .u64 nY]) ?_ 0 _ rfl;refine zD ?_;exact nH.out) hb) (ak zB hb);(try clear hb);obtain ⟨_,_⟩:=zC2 nH.out;obtain ⟨_,_⟩:=zF2 nH.out))
      go_roundg k1
      case measure=>have:=HK1.out;omega
      case rel=>exact ⟨(wrap64 (o8 - 1)),(apT),(asU),zT,H',⟨by have:=HK1.out;omega⟩,⟨zK rP⟩,⟨by refine zD ?_;refine aY (cs := #[.int .u64 apT,.int .u64 acg]) ?_ 1 _ rfl;refine zD ?_;refine aY (cs := #[.int .u64 abw,.int .u64 acg]) ?_ 0 _ rfl;refine zD ?_;exact nH.out⟩,⟨zB⟩⟩
     ·rw [if_neg c11] at H
      have iO:((Go.bits .and .u64 (dF) 1) == 1)=false:=beq_eq_false_iff_ne.mpr c11
      have yE:((Go.bits .and .u64 (dF) 1) != 1)=true:=bne_iff_ne.mpr c11
      have H':=aj.mk H
      clear H
      have aAt:=abY.out
      have aAu:=abX.out
      obtain ⟨_,_⟩:=zC2 nH.out
      obtain ⟨_,_⟩:=zF2 nH.out
      go_wp2_with (first|((with_reducible refine aA (f:=119) rfl ?_);refine aH (some 13) rfl rfl Tryz.func119 (by kernel_rfl) rfl #[.agg #[.int .u64 o9,.int .u64 nY],.int .u64 0] rfl zL ?_;(with_reducible refine (dI.calls o9 nY 0 abw acg _ A8.out).mono ?_);rintro e w21 ⟨rfl,hb⟩;refine ⟨_,rfl,?_⟩;obtain ⟨rP,nH,HB⟩:=zA3 (ay (zK rP) hb) (ay (zK nH) hb) (ak zB hb);(try clear hb);obtain ⟨_,_⟩:=zC2 nH.out;obtain ⟨_,_⟩:=zF2 nH.out))
      go_roundg k1
      case measure=>have:=HK1.out;omega
      case rel=>exact ⟨(wrap64 (o8 - 1)),(abw),(acg),zT,H',⟨by have:=HK1.out;omega⟩,⟨zK rP⟩,⟨by refine zD ?_;refine aY (cs := #[.int .u64 abw,.int .u64 nY]) ?_ 1 _ rfl;refine zD ?_;refine aY (cs := #[.int .u64 o9,.int .u64 nY]) ?_ 0 _ rfl;refine zD ?_;exact nH.out⟩,⟨zB⟩⟩
    ·rw [if_neg c9] at H
     exact absurd H (by simp)
   ·rw [if_neg c7] at H
    have jr:=decide_eq_false c7
    clear c7
    simp only [Option.some.injEq,Prod.mk.injEq] at H
    obtain ⟨rfl,rfl⟩:=H
    have al6:=abY.out
    have al7:=abX.out
    obtain ⟨_,_⟩:=zC2 nH.out
    obtain ⟨_,_⟩:=zF2 nH.out
    obtain ⟨_,_⟩:=zC2 rP.out
    obtain ⟨_,_⟩:=zF2 rP.out
    go_wp2
    refine bodyPost_ret (results_cell_row rfl _ _ aqK 179 #[.int .u64 o9,.int .u64 nY] (0,0) _ rfl (by refine zD ?_;refine aY (cs := #[.int .u64 o9,.int .u64 0]) ?_ 1 _ rfl;refine zD ?_;refine aY (cs := #[.int .u64 0,.int .u64 0]) ?_ 0 _ rfl;refine zD ?_;exact rP.out) Tryz.underlying179 rfl (by kernel_rfl)) rfl ?_
    exact ⟨zS,zB⟩
def gZ.f (bJ dB kP nK:Int):Option (Bool):=if bJ=kP then (some (decide (dB < nK))) else (some (decide (bJ < kP)))
set_option maxHeartbeats 8000000 in
set_option maxRecDepth 100000 in
theorem gZ.calls (bJ dB kP nK:Int) (r:Bool) (w:World) (h:gZ.f bJ dB kP nK=some r) :
  Calls Tryz.prog 123 #[.agg #[.int .u64 bJ,.int .u64 dB],.agg #[.int .u64 kP,.int .u64 nK]] w fun e w'=>e = .returned (.bool r)∧Below w.heap.size w w':=by
 have xB:=Tryz.underlying179
 have HB:=aj.mk (Below.refl w.heap.size w)
 have H:=h
 clear h
 unfold gZ.f at H
 by_cases c3:bJ=kP
 ·rw [if_pos c3] at H
  have fO:(bJ == kP)=true:=beq_iff_eq.mpr c3
  have wO:(bJ != kP)=false:=bne_eq_false_iff_eq.mpr c3
  clear c3
  obtain rfl:=Option.some.inj H
  go_enter Tryz.func123,Tryz.ntmps123
  go_wp2_with (first|((with_reducible refine bM (N:=2) rfl ?_);refine bU zR (N:=2) zR (cs := #[.int .u64 bJ,.int .u64 dB]) (t:=179) zG ?_;intro au4 hg w4 hbox hb;obtain ⟨HB,wK,au5,au6⟩:=zA4 (ak zB hb) hbox (zg hg zB) (zg hg zB);clear hb hbox hg)|((with_reducible refine bM (N:=3) rfl ?_);refine bU zR (N:=3) zR (cs := #[.int .u64 kP,.int .u64 nK]) (t:=179) zG ?_;intro au7 hg w5 hbox hb;obtain ⟨wK,HB,agZ,au8,au9,aew,aex⟩:=zA7 (ay (zK wK) hb) (ak zB hb) hbox (zg hg zB) (zg hg zB) (zl hg (zK wK)) (zr hg (zK wK));clear hb hbox hg;have aBb:=aew.out;have aBd:=aex.out;obtain ⟨_,_⟩:=zC2 wK.out;obtain ⟨_,_⟩:=zF2 wK.out;obtain ⟨_,_⟩:=zC2 agZ.out;obtain ⟨_,_⟩:=zF2 agZ.out))
  go_ret
  exact ⟨zS,zB⟩
 ·rw [if_neg c3] at H
  have fO:(bJ == kP)=false:=beq_eq_false_iff_ne.mpr c3
  have wO:(bJ != kP)=true:=bne_iff_ne.mpr c3
  obtain rfl:=Option.some.inj H
  go_enter Tryz.func123,Tryz.ntmps123
  go_wp2_with (first|((with_reducible refine bM (N:=2) rfl ?_);refine bU zR (N:=2) zR (cs := #[.int .u64 bJ,.int .u64 dB]) (t:=179) zG ?_;intro au4 hg w9 hbox hb;obtain ⟨HB,wK,au5,au6⟩:=zA4 (ak zB hb) hbox (zg hg zB) (zg hg zB);clear hb hbox hg)|((with_reducible refine bM (N:=3) rfl ?_);refine bU zR (N:=3) zR (cs := #[.int .u64 kP,.int .u64 nK]) (t:=179) zG ?_;intro au7 hg w10 hbox hb;obtain ⟨wK,HB,agZ,au8,au9,aew,aex⟩:=zA7 (ay (zK wK) hb) (ak zB hb) hbox (zg hg zB) (zg hg zB) (zl hg (zK wK)) (zr hg (zK wK));clear hb hbox hg;have atB:=aew.out;have atC:=aex.out;obtain ⟨_,_⟩:=zC2 wK.out;obtain ⟨_,_⟩:=zF2 wK.out;obtain ⟨_,_⟩:=zC2 agZ.out;obtain ⟨_,_⟩:=zF2 agZ.out))
  go_ret
  exact ⟨zS,zB⟩
def bP.j0:Nat→Bool→Int→Int→Option (Int)
 | 0,_,_,_=>none
 | k+1,x13,axC,arz=>if x13=true then (some (-9223372036854775808)) else (some (wrap64 (-(wrap64 (arz)))))
def bP.f (k:Nat) (bJ dB:Int) (a1:Bool):Option (Int):=if a1=true then (if bJ > 0 then (bP.j0 k true bJ dB) else (bP.j0 k (decide (dB > 9223372036854775807)) bJ dB)) else (if bJ > 0 then (some 9223372036854775807) else (if dB > 9223372036854775807 then (some 9223372036854775807) else (some (wrap64 (dB)))))
set_option maxHeartbeats 8000000 in
set_option maxRecDepth 100000 in
theorem bP.calls (k:Nat) (bJ dB:Int) (a1:Bool) (r:Int) (w:World) (h:bP.f k bJ dB a1=some r) :
  Calls Tryz.prog 125 #[.agg #[.int .u64 bJ,.int .u64 dB],.bool a1] w fun e w'=>e = .returned (.int .i64 r)∧Below w.heap.size w w':=by
 have xB:=Tryz.underlying179
 have HB:=aj.mk (Below.refl w.heap.size w)
 have H:=h
 clear h
 unfold bP.f at H
 by_cases c3:a1=true
 ·subst c3
  rw [if_pos rfl] at H;try dsimp only at H
  have HC4:=aj.mk H
  clear H
  go_enter Tryz.func125,Tryz.ntmps125
  go_upto_region 2 with (first|((with_reducible refine bM (N:=2) rfl ?_);refine bU zR (N:=2) zR (cs := #[.int .u64 bJ,.int .u64 dB]) (t:=179) zG ?_;intro ai5 hg w5 hbox hb;obtain ⟨HB,qI,am2,am3⟩:=zA4 (ak zB hb) hbox (zg hg zB) (zg hg zB);clear hb hbox hg))
  (try simp only [Act.put,List.setIfInBounds_toArray,List.set_cons_zero,List.set_cons_succ])
  go_cut [13] (fun v13 wc=>∃ (kq:Nat) (ai6:Bool),v13 = .bool ai6∧aj (bP.j0 kq ai6 bJ dB=some r)∧aj (kq≤k)∧aj (wc.heap[ai5]? = some (.cells #[.int .u64 bJ,.int .u64 dB] 179 (0,0)))∧aj (Below w.heap.size w wc))
  case first =>
   have H:=HC4.out
   clear HC4
   by_cases c6:bJ > 0
   ·rw [if_pos c6] at H
    have iw:=decide_eq_true c6
    clear c6
    (first|rw [iw]|(simp only [bZ,dA];rw [iw])|skip)
    have H':=aj.mk H
    clear H
    obtain ⟨_,_⟩:=zC2 qI.out
    obtain ⟨_,_⟩:=zF2 qI.out
    go_wp2
    go_meet
    case rel=>exact ⟨_,(true),zT,H',⟨by first|omega|exact Nat.le_refl _⟩,⟨zK qI⟩,⟨zB⟩⟩
   ·rw [if_neg c6] at H
    have iw:=decide_eq_false c6
    clear c6
    (first|rw [iw]|(simp only [bZ,dA];rw [iw])|skip)
    have H':=aj.mk H
    clear H
    obtain ⟨_,_⟩:=zC2 qI.out
    obtain ⟨_,_⟩:=zF2 qI.out
    go_wp2
    go_meet
    case rel=>exact ⟨_,(decide (dB > 9223372036854775807)),zT,H',⟨by first|omega|exact Nat.le_refl _⟩,⟨zK qI⟩,⟨zB⟩⟩
  case rest =>
   clear HC4
   obtain ⟨kq,ai6,rfl,HA,HJ3,qI,HB⟩:=hcut
   cases kq with
   | zero=>exact absurd HA.out (by simp [bP.j0])
   | succ kj3 =>
    have H:=HA.out
    clear HA
    simp only [bP.j0] at H
    by_cases c9:ai6=true
    ·subst c9
     rw [if_pos rfl] at H;try dsimp only at H
     obtain rfl:=Option.some.inj H
     go_wp2
     go_ret
     exact ⟨zS,zB⟩
    ·replace c9:=Bool.eq_false_iff.mpr c9
     subst c9
     rw [if_neg (show ¬ (false=true) by decide)] at H;try dsimp only at H
     obtain rfl:=Option.some.inj H
     obtain ⟨_,_⟩:=zC2 qI.out
     obtain ⟨_,_⟩:=zF2 qI.out
     go_wp2
     go_ret
     exact ⟨zS,zB⟩
 ·replace c3:=Bool.eq_false_iff.mpr c3
  subst c3
  rw [if_neg (show ¬ (false=true) by decide)] at H;try dsimp only at H
  by_cases c11:bJ > 0
  ·rw [if_pos c11] at H
   have iO:=decide_eq_true c11
   clear c11
   obtain rfl:=Option.some.inj H
   go_enter Tryz.func125,Tryz.ntmps125
   go_wp2_with (first|((with_reducible refine bM (N:=2) rfl ?_);refine bU zR (N:=2) zR (cs := #[.int .u64 bJ,.int .u64 dB]) (t:=179) zG ?_;intro ai5 hg w12 hbox hb;obtain ⟨HB,qI,am2,am3⟩:=zA4 (ak zB hb) hbox (zg hg zB) (zg hg zB);clear hb hbox hg;obtain ⟨_,_⟩:=zC2 qI.out;obtain ⟨_,_⟩:=zF2 qI.out))
   go_ret
   exact ⟨zS,zB⟩
  ·rw [if_neg c11] at H
   have iO:=decide_eq_false c11
   clear c11
   by_cases c14:dB > 9223372036854775807
   ·rw [if_pos c14] at H
    have abP:=decide_eq_true c14
    clear c14
    obtain rfl:=Option.some.inj H
    go_enter Tryz.func125,Tryz.ntmps125
    go_wp2_with (first|((with_reducible refine bM (N:=2) rfl ?_);refine bU zR (N:=2) zR (cs := #[.int .u64 bJ,.int .u64 dB]) (t:=179) zG ?_;intro ai5 hg w15 hbox hb;obtain ⟨HB,qI,am2,am3⟩:=zA4 (ak zB hb) hbox (zg hg zB) (zg hg zB);clear hb hbox hg;obtain ⟨_,_⟩:=zC2 qI.out;obtain ⟨_,_⟩:=zF2 qI.out))
    go_ret
    exact ⟨zS,zB⟩
   ·rw [if_neg c14] at H
    have abP:=decide_eq_false c14
    clear c14
    obtain rfl:=Option.some.inj H
    go_enter Tryz.func125,Tryz.ntmps125
    go_wp2_with (first|((with_reducible refine bM (N:=2) rfl ?_);refine bU zR (N:=2) zR (cs := #[.int .u64 bJ,.int .u64 dB]) (t:=179) zG ?_;intro ai5 hg w17 hbox hb;obtain ⟨HB,qI,am2,am3⟩:=zA4 (ak zB hb) hbox (zg hg zB) (zg hg zB);clear hb hbox hg;obtain ⟨_,_⟩:=zC2 qI.out;obtain ⟨_,_⟩:=zF2 qI.out))
    go_ret
    exact ⟨zS,zB⟩
def fD.f (bJ dB a1:Int):Option (Int):=if a1≥64 then (if 0≤(wrap64 (a1 - 64)) then (some (Go.bits .and .u64 (shr .u64 bJ (wrap64 (a1 - 64))) 1)) else (none)) else (if 0≤a1 then (some (Go.bits .and .u64 (shr .u64 dB a1) 1)) else (none))
set_option maxHeartbeats 8000000 in
set_option maxRecDepth 100000 in
theorem fD.calls (bJ dB a1 r:Int) (w:World) (h:fD.f bJ dB a1=some r) :
  Calls Tryz.prog 121 #[.agg #[.int .u64 bJ,.int .u64 dB],.int .i64 a1] w fun e w'=>e = .returned (.int .u64 r)∧Below w.heap.size w w':=by
 have xB:=Tryz.underlying179
 have HB:=aj.mk (Below.refl w.heap.size w)
 have H:=h
 clear h
 unfold fD.f at H
 by_cases c3:a1≥64
 ·rw [if_pos c3] at H
  have fO:=decide_eq_true c3
  clear c3
  obtain ⟨ji4,xM⟩:∃ j_:Int,(wrap64 (a1 - 64))=j_:=⟨_,rfl⟩
  replace H:(if 0≤(ji4) then (some (Go.bits .and .u64 (shr .u64 bJ (ji4)) 1)) else (none))=some r:=by first|(rw [xM] at H;exact H)|(simp only [xM] at H ⊢;exact H)
  have aAv:(IntKind.i64.wrap (a1 - 64))=ji4:=(bZ _).trans xM
  by_cases c5:0≤(ji4)
  ·rw [if_pos c5] at H
   have iL:=eq_true c5
   have abt:=decide_eq_true c5
   clear c5
   obtain ⟨ji6,wU⟩:∃ j_:Int,(shr .u64 bJ (ji4))=j_:=⟨_,rfl⟩
   replace H:(some (Go.bits .and .u64 (ji6) 1))=some r:=by first|(rw [wU] at H;exact H)|(simp only [wU] at H ⊢;exact H)
   have auE:(bJ / 2 ^ min (ji4).toNat 64)=ji6:=wU
   have auF:(ji4)≤64→(bJ / 2 ^ (ji4).toNat)=ji6:=oM wU
   obtain rfl:=Option.some.inj H
   go_enter Tryz.func121,Tryz.ntmps121
   go_wp2_with (first|((with_reducible refine bM (N:=2) rfl ?_);refine bU zR (N:=2) zR (cs := #[.int .u64 bJ,.int .u64 dB]) (t:=179) zG ?_;intro ava hg w7 hbox hb;obtain ⟨HB,ag0,avb,avc⟩:=zA4 (ak zB hb) hbox (zg hg zB) (zg hg zB);clear hb hbox hg;obtain ⟨_,_⟩:=zC2 ag0.out;obtain ⟨_,_⟩:=zF2 ag0.out))
   go_ret
   exact ⟨by first|rfl|(simp [bG,bH] <;> rfl)|(simp only [← xM,← wU];first|rfl|(simp [bG,bH] <;> rfl))|(simp [*,bG,bH] <;> rfl),zB⟩
  ·rw [if_neg c5] at H
   exact absurd H (by simp)
 ·rw [if_neg c3] at H
  have fO:=decide_eq_false c3
  clear c3
  by_cases c9:0≤a1
  ·rw [if_pos c9] at H
   have qJ:=eq_true c9
   have afl:=decide_eq_true c9
   clear c9
   obtain ⟨dF,jJ⟩:∃ j_:Int,(shr .u64 dB a1)=j_:=⟨_,rfl⟩
   replace H:(some (Go.bits .and .u64 (dF) 1))=some r:=by first|(rw [jJ] at H;exact H)|(simp only [jJ] at H ⊢;exact H)
   have akj:(dB / 2 ^ min a1.toNat 64)=dF:=jJ
   have anK:a1≤64→(dB / 2 ^ a1.toNat)=dF:=oM jJ
   obtain rfl:=Option.some.inj H
   go_enter Tryz.func121,Tryz.ntmps121
   go_wp2_with (first|((with_reducible refine bM (N:=2) rfl ?_);refine bU zR (N:=2) zR (cs := #[.int .u64 bJ,.int .u64 dB]) (t:=179) zG ?_;intro ava hg w11 hbox hb;obtain ⟨HB,ag0,avb,avc⟩:=zA4 (ak zB hb) hbox (zg hg zB) (zg hg zB);clear hb hbox hg;obtain ⟨_,_⟩:=zC2 ag0.out;obtain ⟨_,_⟩:=zF2 ag0.out))
   go_ret
   exact ⟨by first|rfl|(simp [bG,bH] <;> rfl)|(simp only [← jJ];first|rfl|(simp [bG,bH] <;> rfl))|(simp [*,bG,bH] <;> rfl),zB⟩
  ·rw [if_neg c9] at H
   exact absurd H (by simp)
end Go.Proofs.YtpondkggmcmpfaaGreatDoor.QA
