/- Joined by wip/tools/bundle.py out of: QAx9 QAx10 QAx14 QAx15 QAx16 QAx21 QAx22 QAx23. -/
import Derived.Test.YtpondkggmcmpfaaGreatDoorBPlanAll0
import Derived.Test.YtpondkggmcmpfaaGreatDoorBPlanAll1
import Derived.Test.YtpondkggmcmpfaaGreatDoorBPlanAll2
namespace Go.Proofs.YtpondkggmcmpfaaGreatDoor.QA
open Go.Proofs.YtpondkggmcmpfaaGreatDoor.T
open Go.RowKit Go.Proofs.YtpondkggmcmpfaaGreatDoorW.PrintWords Go.Proofs.YtpondkggmcmpfaaGreatDoorW.PrintLast Go.Proofs.YtpondkggmcmpfaaGreatDoorW.PrintMore
attribute [local go_sem] eP dV dW fM fO
set_option linter.unusedVariables false
set_option linter.unusedSimpArgs false
def dB.j0:Nat→Bool→Int→Int→Bool→Option (Int)
 | 0,_,_,_,_=>none
 | k+1,x9,x10,x11,x59=>if x59=true then ((cO.f k x10 x11 x9).bind fun apC=>(some apC)) else ((cO.f k (IntKind.u64.wrap (x10+(oO x11 1 0))) (oN x11 1 0) x9).bind fun apD=>(some apD))
def dB.f (k:Nat) (a0 a1 a2:Int):Option (Int):=if (mx 0 a2)≥128 then (some 0) else ((jV.f a0 a1).bind fun lK=>(if (mx 0 a2)=0 then ((cO.f k lK.1 lK.2.1 lK.2.2).bind fun akn=>(some akn)) else ((nO.f lK.1 lK.2.1 (mx 0 a2)).bind fun wF=>((nO.f lK.1 lK.2.1 (wrap64 ((mx 0 a2) - 1))).bind fun amQ=>(if (Go.bits .and .u64 amQ.2 1)=0 then (dB.j0 k lK.2.2 wF.1 wF.2 true) else (if lK.2.2=true then ((qQ.f lK.1 lK.2.1 (wrap64 ((mx 0 a2) - 1))).bind fun ahK=>(dB.j0 k lK.2.2 wF.1 wF.2 ahK)) else (dB.j0 k lK.2.2 wF.1 wF.2 false)))))))
theorem dB.iQ:∀ k,(∀ y0 y1 y2 y3,LeO (dB.j0 k y0 y1 y2 y3) (dB.j0 (k+1) y0 y1 y2 y3))
 | 0=>fun _ _ _ _ r h=>by simp [dB.j0] at h
 | k+1=>by
  have ih0:=dB.iQ k
  ·intro y0 y1 y2 y3
   unfold dB.j0
   repeat' (with_reducible first|exact ih0 _ _ _ _|exact cO.mono _ _ _ _|exact zM|refine LeO.ite ?_ ?_|refine LeO.bind ?_ (fun _ => ?_))
theorem dB.mono:∀ a0 a1 a2 k,LeO (dB.f k a0 a1 a2) (dB.f (k+1) a0 a1 a2):=by
 intro a0 a1 a2 k
 have ih0:=dB.iQ k
 unfold dB.f
 repeat' (with_reducible first|exact ih0 _ _ _ _|exact cO.mono _ _ _ _|exact zM|refine LeO.ite ?_ ?_|refine LeO.bind ?_ (fun _ => ?_))
set_option maxHeartbeats 8000000 in
set_option maxRecDepth 100000 in
theorem dB.calls (k:Nat) (a0 a1 a2 r:Int) (w:World) (h:dB.f k a0 a1 a2=some r) :
  Calls Tryz.prog 176 #[.int .i64 a0,.int .i64 a1,.int .i64 a2] w fun e w'=>e = .returned (.int .i64 r)∧Below w.heap.size w w':=by
 have HB:=aj.mk (Below.refl w.heap.size w)
 have H:=h
 clear h
 unfold dB.f at H
 obtain ⟨ji4,xJ⟩:∃ j_:Int,(mx 0 a2)=j_:=⟨_,rfl⟩
 replace H:(if (ji4)≥128 then (some 0) else ((jV.f a0 a1).bind fun lK=>(if (ji4)=0 then ((cO.f k lK.1 lK.2.1 lK.2.2).bind fun akn=>(some akn)) else ((nO.f lK.1 lK.2.1 (ji4)).bind fun wF=>((nO.f lK.1 lK.2.1 (wrap64 ((ji4) - 1))).bind fun amQ=>(if (Go.bits .and .u64 amQ.2 1)=0 then (dB.j0 k lK.2.2 wF.1 wF.2 true) else (if lK.2.2=true then ((qQ.f lK.1 lK.2.1 (wrap64 ((ji4) - 1))).bind fun ahK=>(dB.j0 k lK.2.2 wF.1 wF.2 ahK)) else (dB.j0 k lK.2.2 wF.1 wF.2 false))))))))=some r:=by first|(rw [xJ] at H;exact H)|(simp only [xJ] at H ⊢;exact H)
 (try (have aqC:0≤ji4:=by (rw [← xJ];unfold mx;(repeat' split) <;> omega)))
 (try (have az3:0≤ji4:=by omega))
 have az4:(if 0 < a2 then a2 else 0)=ji4:=xJ
 by_cases c5:(ji4)≥128
 ·rw [if_pos c5] at H
  have iJ:=decide_eq_true c5
  clear c5
  obtain rfl:=Option.some.inj H
  go_enter Tryz.func176,Tryz.ntmps176
  go_wp2
  go_ret
  exact ⟨by first|rfl|(simp [bG,bH] <;> rfl)|(simp only [← xJ];first|rfl|(simp [bG,bH] <;> rfl))|(simp [*,bG,bH] <;> rfl),zB⟩
 ·rw [if_neg c5] at H
  have iJ:=decide_eq_false c5
  clear c5
  replace H:=zO H
  obtain ⟨⟨t141,ac9,t143⟩,A6,H⟩:=H
  try dsimp only at H
  by_cases c7:(ji4)=0
  ·rw [if_pos c7] at H
   have jq:((ji4) == 0)=true:=beq_iff_eq.mpr c7
   have aa9:((ji4) != 0)=false:=bne_eq_false_iff_eq.mpr c7
   clear c7
   replace H:=zO H
   obtain ⟨akn,A8,H⟩:=H
   try dsimp only at H
   obtain rfl:=Option.some.inj H
   go_enter Tryz.func176,Tryz.ntmps176
   go_wp2_with (first|((with_reducible refine aA (f:=154) rfl ?_);refine aH (some 22) rfl rfl Tryz.func154 (by kernel_rfl) rfl #[.int .i64 a0,.int .i64 a1] rfl zL ?_;(with_reducible refine (jV.calls a0 a1 t141 ac9 t143 _ A6.out).mono ?_);rintro e w' ⟨rfl,⟨nd,rfl⟩⟩;refine ⟨_,rfl,?_⟩)|((with_reducible refine aA (f:=156) rfl ?_);refine aH (some 31) rfl rfl Tryz.func156 (by kernel_rfl) rfl #[.int .u64 t141,.int .u64 ac9,.bool t143] rfl zL ?_;(with_reducible refine (cO.calls k t141 ac9 t143 akn _ A8.out).mono ?_);rintro e w' ⟨rfl,⟨nd,rfl⟩⟩;refine ⟨_,rfl,?_⟩))
   go_ret
   exact ⟨by first|rfl|(simp [bG,bH] <;> rfl)|(simp only [← xJ];first|rfl|(simp [bG,bH] <;> rfl))|(simp [*,bG,bH] <;> rfl),zB⟩
  ·rw [if_neg c7] at H
   have jq:((ji4) == 0)=false:=beq_eq_false_iff_ne.mpr c7
   have aa9:((ji4) != 0)=true:=bne_iff_ne.mpr c7
   replace H:=zO H
   obtain ⟨⟨t145,t146⟩,A9,H⟩:=H
   try dsimp only at H
   replace H:=zO H
   obtain ⟨⟨avQ,t148⟩,A10,H⟩:=H
   try dsimp only at H
   have apE:=aj.mk H
   clear H
   go_enter Tryz.func176,Tryz.ntmps176
   go_upto_region 9 with (first|((with_reducible refine aA (f:=154) rfl ?_);refine aH (some 22) rfl rfl Tryz.func154 (by kernel_rfl) rfl #[.int .i64 a0,.int .i64 a1] rfl zL ?_;(with_reducible refine (jV.calls a0 a1 t141 ac9 t143 _ A6.out).mono ?_);rintro e w' ⟨rfl,⟨nd,rfl⟩⟩;refine ⟨_,rfl,?_⟩)|((with_reducible refine aA (f:=188) rfl ?_);refine aH (some 36) rfl rfl Tryz.func188 (by kernel_rfl) rfl #[.int .u64 t141,.int .u64 ac9,.int .i64 ji4] rfl (by (try simp only [List.map_toArray,List.map_cons,List.map_nil]);first|done|(simp only [xJ];rfl)|(simp only [Int.tdiv_eq_ediv_of_nonneg aqC];rfl)|rfl|(simp only [List.length_drop,List.length_take];rfl)) ?_;(with_reducible refine (nO.calls t141 ac9 ji4 t145 t146 _ A9.out).mono ?_);rintro e w' ⟨rfl,⟨nd,rfl⟩⟩;refine ⟨_,rfl,?_⟩)|((with_reducible refine aA (f:=188) rfl ?_);refine aH (some 44) rfl rfl Tryz.func188 (by kernel_rfl) rfl #[.int .u64 t141,.int .u64 ac9,.int .i64 (wrap64 ((ji4) - 1))] rfl (by (try simp only [List.map_toArray,List.map_cons,List.map_nil]);first|done|(simp only [xJ];rfl)|(simp only [Int.tdiv_eq_ediv_of_nonneg aqC];rfl)|rfl|(simp only [List.length_drop,List.length_take];rfl)) ?_;(with_reducible refine (nO.calls t141 ac9 (wrap64 ((ji4) - 1)) avQ t148 _ A10.out).mono ?_);rintro e w' ⟨rfl,⟨nd,rfl⟩⟩;refine ⟨_,rfl,?_⟩))
   (try simp only [Act.put,List.setIfInBounds_toArray,List.set_cons_zero,List.set_cons_succ])
   go_cut [59] (fun v59 wc=>∃ (kq:Nat) (agP:Bool),v59 = .bool agP∧aj (dB.j0 kq t143 t145 t146 agP=some r)∧aj (kq≤k)∧aj (Below w.heap.size w wc))
   case first =>
    have H:=apE.out
    clear apE
    by_cases c12:(Go.bits .and .u64 t148 1)=0
    ·rw [if_pos c12] at H
     have aaX:((Go.bits .and .u64 t148 1) == 0)=true:=beq_iff_eq.mpr c12
     have auB:((Go.bits .and .u64 t148 1) != 0)=false:=bne_eq_false_iff_eq.mpr c12
     clear c12
     (first|rw [aaX]|(simp only [bW,dh];rw [aaX])|skip)
     have H':=aj.mk H
     clear H
     go_wp2
     go_meet
     case rel=>exact ⟨_,(true),zT,H',⟨by first|omega|exact Nat.le_refl _⟩,⟨zB⟩⟩
    ·rw [if_neg c12] at H
     have aaX:((Go.bits .and .u64 t148 1) == 0)=false:=beq_eq_false_iff_ne.mpr c12
     have auB:((Go.bits .and .u64 t148 1) != 0)=true:=bne_iff_ne.mpr c12
     (first|rw [aaX]|(simp only [bW,dh];rw [aaX])|skip)
     by_cases c13:t143=true
     ·subst c13
      rw [if_pos rfl] at H;try dsimp only at H
      replace H:=zO H
      obtain ⟨ahK,A14,H⟩:=H
      try dsimp only at H
      have H':=aj.mk H
      clear H
      go_wp2_with (first|(go_at_call 189;(with_reducible refine (qQ.calls t141 ac9 (wrap64 ((ji4) - 1)) ahK _ A14.out).mono ?_);rintro e w' ⟨rfl,⟨nd,rfl⟩⟩))
      go_meet
      case rel=>exact ⟨_,(ahK),zT,H',⟨by first|omega|exact Nat.le_refl _⟩,⟨zB⟩⟩
     ·replace c13:=Bool.eq_false_iff.mpr c13
      subst c13
      rw [if_neg (show ¬ (false=true) by decide)] at H;try dsimp only at H
      have H':=aj.mk H
      clear H
      go_wp2
      go_meet
      case rel=>exact ⟨_,(false),zT,H',⟨by first|omega|exact Nat.le_refl _⟩,⟨zB⟩⟩
   case rest =>
    clear apE
    obtain ⟨kq,agP,rfl,HA,aAR,HB⟩:=hcut
    cases kq with
    | zero=>exact absurd HA.out (by simp [dB.j0])
    | succ asH =>
     have H:=HA.out
     clear HA
     simp only [dB.j0] at H
     by_cases c15:agP=true
     ·subst c15
      rw [if_pos rfl] at H;try dsimp only at H
      replace H:=zO H
      obtain ⟨apC,A16,H⟩:=H
      try dsimp only at H
      obtain rfl:=Option.some.inj H
      go_wp2_with (first|((with_reducible refine aA (f:=156) rfl ?_);refine aH (some 63) rfl rfl Tryz.func156 (by kernel_rfl) rfl #[.int .u64 t145,.int .u64 t146,.bool t143] rfl zL ?_;(with_reducible refine (cO.calls asH t145 t146 t143 apC _ A16.out).mono ?_);rintro e w' ⟨rfl,⟨nd,rfl⟩⟩;refine ⟨_,rfl,?_⟩))
      go_ret
      exact ⟨by first|rfl|(simp [bG,bH] <;> rfl)|(simp only [← xJ];first|rfl|(simp [bG,bH] <;> rfl))|(simp [*,bG,bH] <;> rfl),zB⟩
     ·replace c15:=Bool.eq_false_iff.mpr c15
      subst c15
      rw [if_neg (show ¬ (false=true) by decide)] at H;try dsimp only at H
      replace H:=zO H
      obtain ⟨apD,A17,H⟩:=H
      try dsimp only at H
      obtain rfl:=Option.some.inj H
      go_wp2_with (first|((with_reducible refine aA (f:=156) rfl ?_);refine aH (some 74) rfl rfl Tryz.func156 (by kernel_rfl) rfl #[.int .u64 (IntKind.u64.wrap (t145+(oO t146 1 0))),.int .u64 (oN t146 1 0),.bool t143] rfl zL ?_;(with_reducible refine (cO.calls asH (IntKind.u64.wrap (t145+(oO t146 1 0))) (oN t146 1 0) t143 apD _ A17.out).mono ?_);rintro e w' ⟨rfl,⟨nd,rfl⟩⟩;refine ⟨_,rfl,?_⟩))
      go_ret
      exact ⟨by first|rfl|(simp [bG,bH] <;> rfl)|(simp only [← xJ];first|rfl|(simp [bG,bH] <;> rfl))|(simp [*,bG,bH] <;> rfl),zB⟩
def dY.l0:Nat→Int→Int→Int→Int→Int→Option (Int)
 | 0,_,_,_,_,_=>none
 | k+1,x5,x6,x7,x8,x9=>if x9≤30 then ((aZ.f k x7 x5 (wrap64 ((wrap64 ((wrap64 (2*x9))*(wrap64 ((wrap64 (2*x9))+1))))*1099511627776))).bind fun ahL=>(dY.l0 k x5 (wrap64 (x6+(wrap64 ((wrap64 (-x8))*ahL)))) ahL (wrap64 (-x8)) (wrap64 (x9+1)))) else (some x6)
def dY.f (k:Nat) (a0 a1:Int):Option (Int):=(qR.f a0).bind fun t152=>((aZ.f k 10851744800547 t152 a1).bind fun ako=>((aZ.f k ako t152 a1).bind fun t154=>(dY.l0 k t154 1099511627776 1099511627776 1 1)))
theorem dY.iQ:∀ k,(∀ y0 y1 y2 y3 y4,LeO (dY.l0 k y0 y1 y2 y3 y4) (dY.l0 (k+1) y0 y1 y2 y3 y4))
 | 0=>fun _ _ _ _ _ r h=>by simp [dY.l0] at h
 | k+1=>by
  have ih0:=dY.iQ k
  ·intro y0 y1 y2 y3 y4
   unfold dY.l0
   repeat' (with_reducible first|exact ih0 _ _ _ _ _|exact aZ.mono _ _ _ _|exact zM|refine LeO.ite ?_ ?_|refine LeO.bind ?_ (fun _ => ?_))
theorem dY.mono:∀ a0 a1 k,LeO (dY.f k a0 a1) (dY.f (k+1) a0 a1):=by
 intro a0 a1 k
 have ih0:=dY.iQ k
 unfold dY.f
 repeat' (with_reducible first|exact ih0 _ _ _ _ _|exact aZ.mono _ _ _ _|exact zM|refine LeO.ite ?_ ?_|refine LeO.bind ?_ (fun _ => ?_))
set_option maxHeartbeats 8000000 in
set_option maxRecDepth 100000 in
theorem dY.calls (k:Nat) (a0 a1 r:Int) (w:World) (h:dY.f k a0 a1=some r) :
  Calls Tryz.prog 177 #[.int .i64 a0,.int .i64 a1] w fun e w'=>e = .returned (.int .i64 r)∧Below w.heap.size w w':=by
 have HB:=aj.mk (Below.refl w.heap.size w)
 have H:=h
 clear h
 unfold dY.f at H
 replace H:=zO H
 obtain ⟨t152,A3,H⟩:=H
 try dsimp only at H
 replace H:=zO H
 obtain ⟨ako,A4,H⟩:=H
 try dsimp only at H
 replace H:=zO H
 obtain ⟨t154,A5,H⟩:=H
 try dsimp only at H
 have H':=aj.mk H
 clear H
 go_enter Tryz.func177,Tryz.ntmps177
 go_wp2_with (first|((with_reducible refine aA (f:=175) rfl ?_);refine aH (some 11) rfl rfl Tryz.func175 (by kernel_rfl) rfl #[.int .i64 a0] rfl zL ?_;(with_reducible refine (qR.calls a0 t152 _ A3.out).mono ?_);rintro e w6 ⟨rfl,hb⟩;refine ⟨_,rfl,?_⟩;replace HB:=aj.mk (ak zB hb);(try clear hb))|((with_reducible refine aA (f:=130) rfl ?_);refine aH (some 14) rfl rfl Tryz.func130 (by kernel_rfl) rfl #[.int .i64 10851744800547,.int .i64 t152,.int .i64 a1] rfl zL ?_;(with_reducible refine (aZ.calls k 10851744800547 t152 a1 ako _ A4.out).mono ?_);rintro e w' ⟨rfl,⟨nd,rfl⟩⟩;refine ⟨_,rfl,?_⟩)|((with_reducible refine aA (f:=130) rfl ?_);refine aH (some 17) rfl rfl Tryz.func130 (by kernel_rfl) rfl #[.int .i64 ako,.int .i64 t152,.int .i64 a1] rfl zL ?_;(with_reducible refine (aZ.calls k ako t152 a1 t154 _ A5.out).mono ?_);rintro e w' ⟨rfl,⟨nd,rfl⟩⟩;refine ⟨_,rfl,?_⟩))
 go_loopg [6,7,8,9] k (fun kq v6 v7 v8 v9 w'=>∃ (o7:Int) (akp:Int) (gW:Int) (rV:Int),v6 = .int .i64 o7∧v7 = .int .i64 akp∧v8 = .int .i64 gW∧v9 = .int .i64 rV∧aj (dY.l0 kq t154 o7 akp gW rV=some r)∧aj (kq≤k)∧aj (Below w.heap.size w w'))
 case atStart=>exact ⟨(1099511627776),(1099511627776),(1),(1),zT,zT,zT,zT,H',⟨Nat.le_refl _⟩,⟨zB⟩⟩
 case round =>
  clear H'
  obtain ⟨o7,akp,gW,rV,rfl,rfl,rfl,rfl,HA,HK1,HB⟩:=hrel
  cases gk with
  | zero=>exact absurd HA.out (by simp [dY.l0])
  | succ k1 =>
   have H:=HA.out
   clear HA
   simp only [dY.l0] at H
   by_cases c7:rV≤30
   ·rw [if_pos c7] at H
    have jq:=decide_eq_true c7
    clear c7
    replace H:=zO H
    obtain ⟨ahL,A8,H⟩:=H
    try dsimp only at H
    have H':=aj.mk H
    clear H
    go_wp2_with (first|((with_reducible refine aA (f:=130) rfl ?_);refine aH (some 33) rfl rfl Tryz.func130 (by kernel_rfl) rfl #[.int .i64 akp,.int .i64 t154,.int .i64 (wrap64 ((wrap64 ((wrap64 (2*rV))*(wrap64 ((wrap64 (2*rV))+1))))*1099511627776))] rfl zL ?_;(with_reducible refine (aZ.calls k1 akp t154 (wrap64 ((wrap64 ((wrap64 (2*rV))*(wrap64 ((wrap64 (2*rV))+1))))*1099511627776)) ahL _ A8.out).mono ?_);rintro e w' ⟨rfl,⟨nd,rfl⟩⟩;refine ⟨_,rfl,?_⟩))
    go_roundg k1
    case measure=>have:=HK1.out;omega
    case rel=>exact ⟨(wrap64 (o7+(wrap64 ((wrap64 (-gW))*ahL)))),(ahL),(wrap64 (-gW)),(wrap64 (rV+1)),zT,zT,zT,zT,H',⟨by have:=HK1.out;omega⟩,⟨zB⟩⟩
   ·rw [if_neg c7] at H
    have jq:=decide_eq_false c7
    clear c7
    obtain rfl:=Option.some.inj H
    go_wp2
    go_ret
    exact ⟨zS,zB⟩
end Go.Proofs.YtpondkggmcmpfaaGreatDoor.QA
namespace Go.Proofs.YtpondkggmcmpfaaGreatDoor.QA
open Go.Proofs.YtpondkggmcmpfaaGreatDoor.T
open Go.RowKit Go.Proofs.YtpondkggmcmpfaaGreatDoorW.PrintWords Go.Proofs.YtpondkggmcmpfaaGreatDoorW.PrintLast Go.Proofs.YtpondkggmcmpfaaGreatDoorW.PrintMore
attribute [local go_sem] eP dV dW fM fO
set_option linter.unusedVariables false
set_option linter.unusedSimpArgs false
def dZ.j0:Nat→Int→Int→Bool→Option (Int)
 | 0,_,_,_=>none
 | k+1,x0,x1,x15=>if x15=true then (some 0) else ((dY.f k x0 x1).bind fun akq=>((dY.f k x0 (wrap64 (3*x1))).bind fun t159=>((dB.f k akq t159 40).bind fun t160=>((mg.f t160 10).bind fun apF=>(some apF)))))
def dZ.f (k:Nat) (a0 a1:Int):Option (Int):=(vP.f a0 a1).bind fun t156=>(if t156=true then ((qR.f a0).bind fun t157=>(dZ.j0 k a0 a1 (decide (t157≥(wrap64 (3*a1)))))) else (dZ.j0 k a0 a1 true))
theorem dZ.iQ:∀ k,(∀ y0 y1 y2,LeO (dZ.j0 k y0 y1 y2) (dZ.j0 (k+1) y0 y1 y2))
 | 0=>fun _ _ _ r h=>by simp [dZ.j0] at h
 | k+1=>by
  have ih0:=dZ.iQ k
  ·intro y0 y1 y2
   unfold dZ.j0
   repeat' (with_reducible first|exact ih0 _ _ _|exact dY.mono _ _ _|exact dB.mono _ _ _ _|exact zM|refine LeO.ite ?_ ?_|refine LeO.bind ?_ (fun _ => ?_))
theorem dZ.mono:∀ a0 a1 k,LeO (dZ.f k a0 a1) (dZ.f (k+1) a0 a1):=by
 intro a0 a1 k
 have ih0:=dZ.iQ k
 unfold dZ.f
 repeat' (with_reducible first|exact ih0 _ _ _|exact dY.mono _ _ _|exact dB.mono _ _ _ _|exact zM|refine LeO.ite ?_ ?_|refine LeO.bind ?_ (fun _ => ?_))
set_option maxHeartbeats 8000000 in
set_option maxRecDepth 100000 in
theorem dZ.calls (k:Nat) (a0 a1 r:Int) (w:World) (h:dZ.f k a0 a1=some r) :
  Calls Tryz.prog 153 #[.int .i64 a0,.int .i64 a1] w fun e w'=>e = .returned (.int .i64 r)∧Below w.heap.size w w':=by
 have HB:=aj.mk (Below.refl w.heap.size w)
 have H:=h
 clear h
 unfold dZ.f at H
 have HC3:=aj.mk H
 clear H
 go_enter Tryz.func153,Tryz.ntmps153
 go_upto_region 1 with (fail)
 go_cut [15] (fun v15 wc=>∃ (kq:Nat) (aiY:Bool),v15 = .bool aiY∧aj (dZ.j0 kq a0 a1 aiY=some r)∧aj (kq≤k)∧aj (Below w.heap.size w wc))
 case first =>
  have H:=HC3.out
  clear HC3
  replace H:=zO H
  obtain ⟨t156,A4,H⟩:=H
  try dsimp only at H
  by_cases c5:t156=true
  ·subst c5
   rw [if_pos rfl] at H;try dsimp only at H
   replace H:=zO H
   obtain ⟨t157,A6,H⟩:=H
   try dsimp only at H
   have H':=aj.mk H
   clear H
   go_wp2_with (first|((with_reducible refine aA (f:=174) rfl ?_);refine aH (some 7) rfl rfl Tryz.func174 (by kernel_rfl) rfl #[.int .i64 a0,.int .i64 a1] rfl zL ?_;(with_reducible refine (vP.calls a0 a1 true _ A4.out).mono ?_);rintro e w' ⟨rfl,⟨nd,rfl⟩⟩;refine ⟨_,rfl,?_⟩)|(go_at_call 175;(with_reducible refine (qR.calls a0 t157 _ A6.out).mono ?_);rintro e w7 ⟨rfl,hb⟩;replace HB:=aj.mk (ak zB hb);(try clear hb)))
   go_meet
   case rel=>exact ⟨_,(decide (t157≥(wrap64 (3*a1)))),zT,H',⟨by first|omega|exact Nat.le_refl _⟩,⟨zB⟩⟩
  ·replace c5:=Bool.eq_false_iff.mpr c5
   subst c5
   rw [if_neg (show ¬ (false=true) by decide)] at H;try dsimp only at H
   have H':=aj.mk H
   clear H
   go_wp2_with (first|((with_reducible refine aA (f:=174) rfl ?_);refine aH (some 7) rfl rfl Tryz.func174 (by kernel_rfl) rfl #[.int .i64 a0,.int .i64 a1] rfl zL ?_;(with_reducible refine (vP.calls a0 a1 false _ A4.out).mono ?_);rintro e w' ⟨rfl,⟨nd,rfl⟩⟩;refine ⟨_,rfl,?_⟩))
   go_meet
   case rel=>exact ⟨_,(true),zT,H',⟨by first|omega|exact Nat.le_refl _⟩,⟨zB⟩⟩
 case rest =>
  clear HC3
  obtain ⟨kq,aiY,rfl,HA,HJ2,HB⟩:=hcut
  cases kq with
  | zero=>exact absurd HA.out (by simp [dZ.j0])
  | succ kj2 =>
   have H:=HA.out
   clear HA
   simp only [dZ.j0] at H
   by_cases c8:aiY=true
   ·subst c8
    rw [if_pos rfl] at H;try dsimp only at H
    obtain rfl:=Option.some.inj H
    go_wp2
    go_ret
    exact ⟨zS,zB⟩
   ·replace c8:=Bool.eq_false_iff.mpr c8
    subst c8
    rw [if_neg (show ¬ (false=true) by decide)] at H;try dsimp only at H
    replace H:=zO H
    obtain ⟨akq,A9,H⟩:=H
    try dsimp only at H
    replace H:=zO H
    obtain ⟨t159,A10,H⟩:=H
    try dsimp only at H
    replace H:=zO H
    obtain ⟨t160,A11,H⟩:=H
    try dsimp only at H
    replace H:=zO H
    obtain ⟨apF,A12,H⟩:=H
    try dsimp only at H
    obtain rfl:=Option.some.inj H
    go_wp2_with (first|((with_reducible refine aA (f:=177) rfl ?_);refine aH (some 18) rfl rfl Tryz.func177 (by kernel_rfl) rfl #[.int .i64 a0,.int .i64 a1] rfl zL ?_;(with_reducible refine (dY.calls kj2 a0 a1 akq _ A9.out).mono ?_);rintro e w13 ⟨rfl,hb⟩;refine ⟨_,rfl,?_⟩;replace HB:=aj.mk (ak zB hb);(try clear hb))|((with_reducible refine aA (f:=177) rfl ?_);refine aH (some 22) rfl rfl Tryz.func177 (by kernel_rfl) rfl #[.int .i64 a0,.int .i64 (wrap64 (3*a1))] rfl zL ?_;(with_reducible refine (dY.calls kj2 a0 (wrap64 (3*a1)) t159 _ A10.out).mono ?_);rintro e w14 ⟨rfl,hb⟩;refine ⟨_,rfl,?_⟩;replace HB:=aj.mk (ak zB hb);(try clear hb))|((with_reducible refine aA (f:=176) rfl ?_);refine aH (some 23) rfl rfl Tryz.func176 (by kernel_rfl) rfl #[.int .i64 akq,.int .i64 t159,.int .i64 40] rfl zL ?_;(with_reducible refine (dB.calls kj2 akq t159 40 t160 _ A11.out).mono ?_);rintro e w15 ⟨rfl,hb⟩;refine ⟨_,rfl,?_⟩;replace HB:=aj.mk (ak zB hb);(try clear hb))|((with_reducible refine aA (f:=100) rfl ?_);refine aH (some 24) rfl rfl Tryz.func100 (by kernel_rfl) rfl #[.int .i64 t160,.int .i64 10] rfl zL ?_;(with_reducible refine (mg.calls t160 10 apF _ A12.out).mono ?_);rintro e w' ⟨rfl,⟨nd,rfl⟩⟩;refine ⟨_,rfl,?_⟩))
    go_ret
    exact ⟨zS,zB⟩
def mZ.f (k:Nat) (a0 a1 a2 a3 a4:Int):Option (Int):=if a0=0 then ((aZ.f k (wrap64 ((mn (wrap64 ((wrap64 (a3+1))*a1)) (wrap64 ((wrap64 (a4+1))*a2))) - (mx (wrap64 (a3*a1)) (wrap64 (a4*a2))))) 1073741824 a1).bind fun t162=>(some t162)) else (if a0=1 then ((fF.f k (wrap64 ((wrap64 ((wrap64 ((wrap64 (2*a2))*a4)) - (wrap64 ((wrap64 ((wrap64 (2*a3))+1))*a1))))+a2)) (wrap64 (2*(mx a1 a2)))).bind fun akr=>(some akr)) else ((dZ.f k (wrap64 ((wrap64 ((wrap64 ((wrap64 (2*a2))*a4)) - (wrap64 ((wrap64 ((wrap64 (2*a3))+1))*a1))))+a2)) (wrap64 (2*(mx a1 a2)))).bind fun t164=>(some t164)))
theorem mZ.mono:∀ a0 a1 a2 a3 a4 k,LeO (mZ.f k a0 a1 a2 a3 a4) (mZ.f (k+1) a0 a1 a2 a3 a4):=by
 intro a0 a1 a2 a3 a4 k
 unfold mZ.f
 repeat' (with_reducible first|exact fF.mono _ _ _|exact dZ.mono _ _ _|exact aZ.mono _ _ _ _|exact zM|refine LeO.ite ?_ ?_|refine LeO.bind ?_ (fun _ => ?_))
set_option maxHeartbeats 8000000 in
set_option maxRecDepth 100000 in
theorem mZ.calls (k:Nat) (a0 a1 a2 a3 a4 r:Int) (w:World) (h:mZ.f k a0 a1 a2 a3 a4=some r) :
  Calls Tryz.prog 129 #[.int .i64 a0,.int .i64 a1,.int .i64 a2,.int .i64 a3,.int .i64 a4] w fun e w'=>e = .returned (.int .i64 r)∧Below w.heap.size w w':=by
 have HB:=aj.mk (Below.refl w.heap.size w)
 have H:=h
 clear h
 unfold mZ.f at H
 by_cases c6:a0=0
 ·rw [if_pos c6] at H
  have ig:(a0 == 0)=true:=beq_iff_eq.mpr c6
  have uj:(a0 != 0)=false:=bne_eq_false_iff_eq.mpr c6
  clear c6
  obtain ⟨ji7,wQ⟩:∃ j_:Int,(mn (wrap64 ((wrap64 (a3+1))*a1)) (wrap64 ((wrap64 (a4+1))*a2)))=j_:=⟨_,rfl⟩
  replace H:((aZ.f k (wrap64 ((ji7) - (mx (wrap64 (a3*a1)) (wrap64 (a4*a2))))) 1073741824 a1).bind fun t162=>(some t162))=some r:=by first|(rw [wQ] at H;exact H)|(simp only [wQ] at H ⊢;exact H)
  have auz:(if (wrap64 ((wrap64 (a4+1))*a2)) < (wrap64 ((wrap64 (a3+1))*a1)) then (wrap64 ((wrap64 (a4+1))*a2)) else (wrap64 ((wrap64 (a3+1))*a1)))=ji7:=wQ
  obtain ⟨ji8,pI⟩:∃ j_:Int,(mx (wrap64 (a3*a1)) (wrap64 (a4*a2)))=j_:=⟨_,rfl⟩
  replace H:((aZ.f k (wrap64 ((ji7) - (ji8))) 1073741824 a1).bind fun t162=>(some t162))=some r:=by first|(rw [pI] at H;exact H)|(simp only [pI] at H ⊢;exact H)
  have aqz:(if (wrap64 (a3*a1)) < (wrap64 (a4*a2)) then (wrap64 (a4*a2)) else (wrap64 (a3*a1)))=ji8:=pI
  replace H:=zO H
  obtain ⟨t162,A9,H⟩:=H
  try dsimp only at H
  obtain rfl:=Option.some.inj H
  go_enter Tryz.func129,Tryz.ntmps129
  go_wp2_with (first|((with_reducible refine aA (f:=130) rfl ?_);refine aH (some 35) rfl rfl Tryz.func130 (by kernel_rfl) rfl #[.int .i64 (wrap64 ((ji7) - (ji8))),.int .i64 1073741824,.int .i64 a1] rfl (by (try simp only [List.map_toArray,List.map_cons,List.map_nil]);first|done|(simp only [wQ,pI];rfl)|rfl|(simp only [List.length_drop,List.length_take];rfl)) ?_;(with_reducible refine (aZ.calls k (wrap64 ((ji7) - (ji8))) 1073741824 a1 t162 _ A9.out).mono ?_);rintro e w' ⟨rfl,⟨nd,rfl⟩⟩;refine ⟨_,rfl,?_⟩))
  go_ret
  exact ⟨by first|rfl|(simp [bG,bH] <;> rfl)|(simp only [← wQ,← pI];first|rfl|(simp [bG,bH] <;> rfl))|(simp [*,bG,bH] <;> rfl),zB⟩
 ·rw [if_neg c6] at H
  have ig:(a0 == 0)=false:=beq_eq_false_iff_ne.mpr c6
  have uj:(a0 != 0)=true:=bne_iff_ne.mpr c6
  obtain ⟨dD,jI⟩:∃ j_:Int,(mx a1 a2)=j_:=⟨_,rfl⟩
  replace H:(if a0=1 then ((fF.f k (wrap64 ((wrap64 ((wrap64 ((wrap64 (2*a2))*a4)) - (wrap64 ((wrap64 ((wrap64 (2*a3))+1))*a1))))+a2)) (wrap64 (2*(dD)))).bind fun akr=>(some akr)) else ((dZ.f k (wrap64 ((wrap64 ((wrap64 ((wrap64 (2*a2))*a4)) - (wrap64 ((wrap64 ((wrap64 (2*a3))+1))*a1))))+a2)) (wrap64 (2*(dD)))).bind fun t164=>(some t164)))=some r:=by first|(rw [jI] at H;exact H)|(simp only [jI] at H ⊢;exact H)
  have ake:(if a1 < a2 then a2 else a1)=dD:=jI
  by_cases c11:a0=1
  ·rw [if_pos c11] at H
   have iL:(a0 == 1)=true:=beq_iff_eq.mpr c11
   have yD:(a0 != 1)=false:=bne_eq_false_iff_eq.mpr c11
   clear c11
   replace H:=zO H
   obtain ⟨akr,A12,H⟩:=H
   try dsimp only at H
   obtain rfl:=Option.some.inj H
   go_enter Tryz.func129,Tryz.ntmps129
   go_wp2_with (first|((with_reducible refine aA (f:=108) rfl ?_);refine aH (some 56) rfl rfl Tryz.func108 (by kernel_rfl) rfl #[.int .i64 (wrap64 ((wrap64 ((wrap64 ((wrap64 (2*a2))*a4)) - (wrap64 ((wrap64 ((wrap64 (2*a3))+1))*a1))))+a2)),.int .i64 (wrap64 (2*(dD)))] rfl (by (try simp only [List.map_toArray,List.map_cons,List.map_nil]);first|done|(simp only [jI];rfl)|(simp only [Int.tdiv_eq_ediv_of_nonneg hji10l];rfl)|rfl|(simp only [List.length_drop,List.length_take];rfl)) ?_;(with_reducible refine (fF.calls k (wrap64 ((wrap64 ((wrap64 ((wrap64 (2*a2))*a4)) - (wrap64 ((wrap64 ((wrap64 (2*a3))+1))*a1))))+a2)) (wrap64 (2*(dD))) akr _ A12.out).mono ?_);rintro e w13 ⟨rfl,hb⟩;refine ⟨_,rfl,?_⟩;replace HB:=aj.mk (ak zB hb);(try clear hb)))
   go_ret
   exact ⟨by first|rfl|(simp [bG,bH] <;> rfl)|(simp only [← jI];first|rfl|(simp [bG,bH] <;> rfl))|(simp [*,bG,bH] <;> rfl),zB⟩
  ·rw [if_neg c11] at H
   have iL:(a0 == 1)=false:=beq_eq_false_iff_ne.mpr c11
   have yD:(a0 != 1)=true:=bne_iff_ne.mpr c11
   replace H:=zO H
   obtain ⟨t164,A14,H⟩:=H
   try dsimp only at H
   obtain rfl:=Option.some.inj H
   go_enter Tryz.func129,Tryz.ntmps129
   go_wp2_with (first|((with_reducible refine aA (f:=153) rfl ?_);refine aH (some 59) rfl rfl Tryz.func153 (by kernel_rfl) rfl #[.int .i64 (wrap64 ((wrap64 ((wrap64 ((wrap64 (2*a2))*a4)) - (wrap64 ((wrap64 ((wrap64 (2*a3))+1))*a1))))+a2)),.int .i64 (wrap64 (2*(dD)))] rfl (by (try simp only [List.map_toArray,List.map_cons,List.map_nil]);first|done|(simp only [jI];rfl)|(simp only [Int.tdiv_eq_ediv_of_nonneg hji10l];rfl)|rfl|(simp only [List.length_drop,List.length_take];rfl)) ?_;(with_reducible refine (dZ.calls k (wrap64 ((wrap64 ((wrap64 ((wrap64 (2*a2))*a4)) - (wrap64 ((wrap64 ((wrap64 (2*a3))+1))*a1))))+a2)) (wrap64 (2*(dD))) t164 _ A14.out).mono ?_);rintro e w15 ⟨rfl,hb⟩;refine ⟨_,rfl,?_⟩;replace HB:=aj.mk (ak zB hb);(try clear hb)))
   go_ret
   exact ⟨by first|rfl|(simp [bG,bH] <;> rfl)|(simp only [← jI];first|rfl|(simp [bG,bH] <;> rfl))|(simp [*,bG,bH] <;> rfl),zB⟩
def gZ.l0:Nat→Int→Int→Int→Int→Int→List Int→Int→Int→Option (Int × List Int)
 | 0,_,_,_,_,_,_,_,_=>none
 | k+1,x0,x1,x2,x3,x8,x9,x20,x21=>if x21 < x20 then ((mZ.f k x0 x1 x2 x3 (wrap64 (x8+x21))).bind fun t167=>(if x9.length < 17592186044416 then (gZ.l0 k x0 x1 x2 x3 x8 (x9 ++ [t167]) x20 (wrap64 (x21+1))) else (none))) else (some (x8,x9))
def gZ.f (k:Nat) (a0 a1 a2 a3:Int):Option (Int × List Int):=(kJ.f k a0 a1 a2 a3).bind fun aqD=>(gZ.l0 k a0 a1 a2 a3 aqD.1 ([]:List Int) aqD.2 0)
theorem gZ.iQ:∀ k,(∀ y0 y1 y2 y3 y4 y5 y6 y7,LeO (gZ.l0 k y0 y1 y2 y3 y4 y5 y6 y7) (gZ.l0 (k+1) y0 y1 y2 y3 y4 y5 y6 y7))
 | 0=>fun _ _ _ _ _ _ _ _ r h=>by simp [gZ.l0] at h
 | k+1=>by
  have ih0:=gZ.iQ k
  ·intro y0 y1 y2 y3 y4 y5 y6 y7
   unfold gZ.l0
   repeat' (with_reducible first|exact ih0 _ _ _ _ _ _ _ _|exact kJ.mono _ _ _ _ _|exact mZ.mono _ _ _ _ _ _|exact zM|refine LeO.ite ?_ ?_|refine LeO.bind ?_ (fun _ => ?_))
theorem gZ.mono:∀ a0 a1 a2 a3 k,LeO (gZ.f k a0 a1 a2 a3) (gZ.f (k+1) a0 a1 a2 a3):=by
 intro a0 a1 a2 a3 k
 have ih0:=gZ.iQ k
 unfold gZ.f
 repeat' (with_reducible first|exact ih0 _ _ _ _ _ _ _ _|exact kJ.mono _ _ _ _ _|exact mZ.mono _ _ _ _ _ _|exact zM|refine LeO.ite ?_ ?_|refine LeO.bind ?_ (fun _ => ?_))
set_option maxHeartbeats 8000000 in
set_option maxRecDepth 100000 in
theorem gZ.calls (k:Nat) (a0 a1 a2 a3 r1:Int) (r2:List Int) (w:World) (hG:GL w) (h:gZ.f k a0 a1 a2 a3=some (r1,r2)) :
  Calls Tryz.prog 107 #[.int .i64 a0,.int .i64 a1,.int .i64 a2,.int .i64 a3] w fun e w'=>∃ v1_:Value,e = .returned (.tuple #[.int .i64 r1,v1_])∧Kd.R (Kd.int .i64) 2 w' w.heap.size (fun _=>True) v1_ r2∧Below w.heap.size w w':=by
 have HB:=aj.mk (Below.refl w.heap.size w)
 have H:=h
 clear h
 unfold gZ.f at H
 replace H:=zO H
 obtain ⟨⟨aks,amR⟩,A5,H⟩:=H
 try dsimp only at H
 have H':=aj.mk H
 clear H
 go_enter Tryz.func107,Tryz.ntmps107
 go_wp2_with (first|((with_reducible refine aA (f:=128) rfl ?_);refine aH (some 17) rfl rfl Tryz.func128 (by kernel_rfl) rfl #[.int .i64 a0,.int .i64 a1,.int .i64 a2,.int .i64 a3] rfl zL ?_;(with_reducible refine (kJ.calls k a0 a1 a2 a3 aks amR _ (by exact GL.below hG (by repeat (first|(with_reducible first|exact HB.out|apply aT|apply aI|apply bg)|exact HB.out|exact Below.refl _ _))) A5.out).mono ?_);rintro e w6 ⟨rfl,hb⟩;refine ⟨_,rfl,?_⟩;replace HB:=aj.mk (ak zB hb);(try clear hb)))
 go_loopg [9,21] k (fun kq v9 v21 w'=>∃ (rV:List Int) (vJ:Int),v21 = .int .i64 vJ∧aj (gZ.l0 kq a0 a1 a2 a3 aks rV amR vJ=some (r1,r2))∧aj (kq≤k)∧aj (Kd.R (Kd.int .i64) 2 w' w.heap.size (fun _=>True) v9 rV)∧aj (Below w.heap.size w w'))
 case atStart=>exact ⟨(([]:List Int)),(0),zT,H',⟨Nat.le_refl _⟩,⟨by first|exact Kd.jY _ _ _ _ _|exact Kd.oJ _ _ _ _ _|exact Kd.nG _ _ _ _ _|exact Kd.oK _ _ _ _ _|exact Kd.oz _ _ _ _ _⟩,⟨zB⟩⟩
 case round =>
  clear H'
  obtain ⟨rV,vJ,rfl,HA,HK1,amS,HB⟩:=hrel
  cases gk with
  | zero=>exact absurd HA.out (by simp [gZ.l0])
  | succ k1 =>
   have H:=HA.out
   clear HA
   simp only [gZ.l0] at H
   by_cases c7:vJ < amR
   ·rw [if_pos c7] at H
    have jq:=decide_eq_true c7
    clear c7
    replace H:=zO H
    obtain ⟨t167,A8,H⟩:=H
    try dsimp only at H
    by_cases c9:rV.length < 17592186044416
    ·rw [if_pos c9] at H
     have avR:=aj.mk c9
     clear c9
     obtain ⟨y168,hy168⟩:∃ y_:List Int,y_=(rV ++ [t167]):=⟨_,rfl⟩
     replace H:(gZ.l0 k1 a0 a1 a2 a3 aks y168 amR (wrap64 (vJ+1)))=some (r1,r2):=by first|(rw [hy168];with_reducible exact H)|(have H2_:=(Option.bind_some _ _).symm.trans H;rw [hy168];with_reducible exact H2_)|(have H2_:=(Option.bind_some _ _).symm.trans H;with_reducible exact H2_)|with_reducible exact H|(rw [hy168];exact H)|exact H
     have auC:=aj.mk hy168
     clear hy168
     have H':=aj.mk H
     clear H
     go_wp2_with (first|((with_reducible refine aA (f:=129) rfl ?_);refine aH (some 32) rfl rfl Tryz.func129 (by kernel_rfl) rfl #[.int .i64 a0,.int .i64 a1,.int .i64 a2,.int .i64 a3,.int .i64 (wrap64 (aks+vJ))] rfl zL ?_;(with_reducible refine (mZ.calls k1 a0 a1 a2 a3 (wrap64 (aks+vJ)) t167 _ A8.out).mono ?_);rintro e w10 ⟨rfl,hb⟩;refine ⟨_,rfl,?_⟩;obtain ⟨amS,HB⟩:=zA2 (Kd.jK (by (with_reducible repeat (first|apply Kd.aK|apply Kd.aQ|apply Kd.aW));exact amS.out) hb) (ak zB hb);(try clear hb))|((with_reducible refine jD (b := .append) (xs := #[.tmp 24,.tmp 33]) rfl ?_);at_builtin;refine Kd.kT (Kd.int .i64) (w0:=w) w.heap.size rfl (.tmp 24) (.tmp 33) 44 2 (.int .i64 0) 8 rfl Tryz.underlying44 vw rfl (by decide) (by omega) u9 rV t167 [.int .i64 t167] (fun _=>True) (fun _=>False) rfl rfl ?aP (fun _ hk=>hk.elim) ?aF ?aO ?aB ?aS ?aL ?_;(case aP=>exact rfl);(case aB=>exact zB);(case aF=>exact (fun _ _=>trivial));(case aO=>exact (by (with_reducible repeat (first|apply Kd.aK|apply Kd.aQ|apply Kd.aW));exact amS.out));(case aS=>exact (bF zB));(case aL=>have:=avR.out;omega);intro aAS w11 ho hb hg hat;rw [← auC.out] at ho;obtain ⟨HB,auD⟩:=zA2 hb ho;clear ho hb hg hat))
     go_roundg k1
     case measure=>have:=HK1.out;omega
     case rel=>exact ⟨(y168),(wrap64 (vJ+1)),zT,H',⟨by have:=HK1.out;omega⟩,⟨by (with_reducible repeat (first|apply Kd.aK|apply Kd.aQ|apply Kd.aW));exact auD.out⟩,⟨zB⟩⟩
    ·rw [if_neg c9] at H
     exact absurd H (by simp)
   ·rw [if_neg c7] at H
    have jq:=decide_eq_false c7
    clear c7
    simp only [Option.some.injEq,Prod.mk.injEq] at H
    obtain ⟨rfl,rfl⟩:=H
    go_wp2
    go_ret2
    exact ⟨_,zS,by (with_reducible repeat (first|apply Kd.aK|apply Kd.aQ|apply Kd.aW));exact amS.out,zB⟩
end Go.Proofs.YtpondkggmcmpfaaGreatDoor.QA
namespace Go.Proofs.YtpondkggmcmpfaaGreatDoor.QA
open Go.Proofs.YtpondkggmcmpfaaGreatDoor.T
open Go.RowKit Go.Proofs.YtpondkggmcmpfaaGreatDoorW.PrintWords Go.Proofs.YtpondkggmcmpfaaGreatDoorW.PrintLast Go.Proofs.YtpondkggmcmpfaaGreatDoorW.PrintMore
attribute [local go_sem] eP dV dW fM fO
set_option linter.unusedVariables false
set_option linter.unusedSimpArgs false
def lC.f (a0:Int):Option (Bool):=if a0≥1 then (some (decide (a0≤65536))) else (some false)
set_option maxHeartbeats 8000000 in
set_option maxRecDepth 100000 in
theorem lC.calls (a0:Int) (r:Bool) (w:World) (h:lC.f a0=some r) :
  Calls Tryz.prog 111 #[.int .i64 a0] w fun e w'=>e = .returned (.bool r)∧dw w w':=by
 have H:=h
 clear h
 unfold lC.f at H
 by_cases c2:a0≥1
 ·rw [if_pos c2] at H
  have lN:=decide_eq_true c2
  clear c2
  obtain rfl:=Option.some.inj H
  go_enter Tryz.func111,Tryz.ntmps111
  go_wp2
  go_ret
  exact ⟨zT,zW⟩
 ·rw [if_neg c2] at H
  have lN:=decide_eq_false c2
  clear c2
  obtain rfl:=Option.some.inj H
  go_enter Tryz.func111,Tryz.ntmps111
  go_wp2
  go_ret
  exact ⟨zT,zW⟩
def jW.l0:Nat→Int→List Int→Int→Int→Option (Int)
 | 0,_,_,_,_=>none
 | k+1,x3,x6,x7,x8=>if x8 < x7 then (if 0≤x8 then (if x8 < (x6.length:Int) then ((tN.f k (rd x6 x8)).bind fun akt=>((kG.f k x3 akt).bind fun t182=>(jW.l0 k t182 x6 x7 (wrap64 (x8+1))))) else (none)) else (none)) else (some x3)
def jW.f (k:Nat) (l0:List Int):Option (Int):=jW.l0 k 0 l0 (l0.length:Int) 0
set_option maxHeartbeats 8000000 in
set_option maxRecDepth 100000 in
theorem jW.calls (k:Nat) (A0:Option Addr) (c0:Nat) (l0:List Int) (r:Int) (w:World) (hr0:Kd.C (Kd.int .i64) w A0 l0.length l0) (hc0:l0.length≤c0) (h:jW.f k l0=some r) :
  Calls Tryz.prog 138 #[.slice A0 l0.length c0] w fun e w'=>e = .returned (.int .i64 r)∧Below w.heap.size w w':=by
 have HR0:=aj.mk hr0
 have HC0:=aj.mk hc0
 clear hr0 hc0
 have HB:=aj.mk (Below.refl w.heap.size w)
 have H:=h
 clear h
 unfold jW.f at H
 have H':=aj.mk H
 clear H
 go_enter Tryz.func138,Tryz.ntmps138
 go_wp2
 go_loopg [3,8] k (fun kq v3 v8 w'=>∃ (qA:Int) (gW:Int),v3 = .int .i64 qA∧v8 = .int .i64 gW∧aj (jW.l0 kq qA l0 (l0.length:Int) gW=some r)∧aj (kq≤k)∧aj (Below w.heap.size w w'))
 case atStart=>exact ⟨(0),(0),zT,zT,H',⟨Nat.le_refl _⟩,⟨zB⟩⟩
 case round =>
  clear H'
  obtain ⟨qA,gW,rfl,rfl,HA,HK1,HB⟩:=hrel
  cases gk with
  | zero=>exact absurd HA.out (by simp [jW.l0])
  | succ k1 =>
   have H:=HA.out
   clear HA
   simp only [jW.l0] at H
   by_cases c2:gW < (l0.length:Int)
   ·rw [if_pos c2] at H
    have lN:=decide_eq_true c2
    clear c2
    by_cases c3:0≤gW
    ·rw [if_pos c3] at H
     have fK:=decide_eq_true c3
     clear c3
     by_cases c4:gW < (l0.length:Int)
     ·rw [if_pos c4] at H
      have fQ:=decide_eq_true c4
      clear c4
      replace H:=zO H
      obtain ⟨akt,A5,H⟩:=H
      try dsimp only at H
      replace H:=zO H
      obtain ⟨t182,A6,H⟩:=H
      try dsimp only at H
      have H':=aj.mk H
      clear H
      have apG:0≤(gW:Int):=of_decide_eq_true (by first|(with_reducible assumption)|assumption)
      have apH:gW < (l0.length:Int):=of_decide_eq_true (by first|(with_reducible assumption)|assumption)
      obtain ⟨az5,avS,ahM⟩:=Kd.jC HR0.out gW apG apH
      cases avS
      replace ahM:=(HB.out.cell (World.block_lt_of_cell? w _ ahM)).trans ahM
      replace apG:=eq_true apG
      replace apH:=eq_true apH
      go_wp2_with (first|((with_reducible refine aA (f:=161) rfl ?_);refine aH (some 14) rfl rfl Tryz.func161 (by kernel_rfl) rfl #[.int .i64 (rd l0 gW)] rfl zL ?_;(with_reducible refine (tN.calls k1 (rd l0 gW) akt _ A5.out).mono ?_);rintro e w7 ⟨rfl,hb⟩;refine ⟨_,rfl,?_⟩;replace HB:=aj.mk (ak zB hb);(try clear hb))|((with_reducible refine aA (f:=162) rfl ?_);refine aH (some 15) rfl rfl Tryz.func162 (by kernel_rfl) rfl #[.int .i64 qA,.int .i64 akt] rfl zL ?_;(with_reducible refine (kG.calls k1 qA akt t182 _ A6.out).mono ?_);rintro e w' ⟨rfl,⟨nd,rfl⟩⟩;refine ⟨_,rfl,?_⟩))
      go_roundg k1
      case measure=>have:=HK1.out;omega
      case rel=>exact ⟨(t182),(wrap64 (gW+1)),zT,zT,H',⟨by have:=HK1.out;omega⟩,⟨zB⟩⟩
     ·rw [if_neg c4] at H
      exact absurd H (by simp)
    ·rw [if_neg c3] at H
     exact absurd H (by simp)
   ·rw [if_neg c2] at H
    have lN:=decide_eq_false c2
    clear c2
    obtain rfl:=Option.some.inj H
    go_wp2
    go_ret
    exact ⟨zS,zB⟩
def iw.l0:Nat→Int→Int→Int→Int→Int→Option (Int)
 | 0,_,_,_,_,_=>none
 | k+1,x3,x4,x5,x6,x14=>if x14 < 16 then ((aZ.f k x6 x4 (wrap64 ((wrap64 (x14+1))*1099511627776))).bind fun t183=>(if (Int.tmod x14 2)=0 then (iw.l0 k x3 x4 (wrap64 (x5 - t183)) t183 (wrap64 (x14+1))) else (iw.l0 k x3 x4 (wrap64 (x5+t183)) t183 (wrap64 (x14+1))))) else ((mg.f x5 x3).bind fun apI=>(some apI))
def iw.f (k:Nat) (a0:Int):Option (Int):=iw.l0 k (wrap64 ((mx 0 a0) / 762123384786)) ((mx 0 a0) % 762123384786) 1099511627776 1099511627776 0
theorem iw.iQ:∀ k,(∀ y0 y1 y2 y3 y4,LeO (iw.l0 k y0 y1 y2 y3 y4) (iw.l0 (k+1) y0 y1 y2 y3 y4))
 | 0=>fun _ _ _ _ _ r h=>by simp [iw.l0] at h
 | k+1=>by
  have ih0:=iw.iQ k
  ·intro y0 y1 y2 y3 y4
   unfold iw.l0
   repeat' (with_reducible first|exact ih0 _ _ _ _ _|exact aZ.mono _ _ _ _|exact zM|refine LeO.ite ?_ ?_|refine LeO.bind ?_ (fun _ => ?_))
theorem iw.mono:∀ a0 k,LeO (iw.f k a0) (iw.f (k+1) a0):=by
 intro a0 k
 have ih0:=iw.iQ k
 unfold iw.f
 repeat' (with_reducible first|exact ih0 _ _ _ _ _|exact aZ.mono _ _ _ _|exact zM|refine LeO.ite ?_ ?_|refine LeO.bind ?_ (fun _ => ?_))
set_option maxHeartbeats 8000000 in
set_option maxRecDepth 100000 in
theorem iw.calls (k:Nat) (a0 r:Int) (w:World) (h:iw.f k a0=some r) :
  Calls Tryz.prog 167 #[.int .i64 a0] w fun e w'=>e = .returned (.int .i64 r)∧Below w.heap.size w w':=by
 have HB:=aj.mk (Below.refl w.heap.size w)
 have H:=h
 clear h
 unfold iw.f at H
 obtain ⟨ji2,zJ⟩:∃ j_:Int,(mx 0 a0)=j_:=⟨_,rfl⟩
 replace H:(iw.l0 k (wrap64 ((ji2) / 762123384786)) ((ji2) % 762123384786) 1099511627776 1099511627776 0)=some r:=by first|(rw [zJ] at H;exact H)|(simp only [zJ] at H ⊢;exact H)
 (try (have amT:0≤ji2:=by (rw [← zJ];unfold mx;(repeat' split) <;> omega)))
 (try (have az6:0≤ji2:=by omega))
 have auy:(if 0 < a0 then a0 else 0)=ji2:=zJ
 have H':=aj.mk H
 clear H
 go_enter Tryz.func167,Tryz.ntmps167
 go_wp2
 go_loopg [5,6,14] k (fun kq v5 v6 v14 w'=>∃ (afM:Int) (o7:Int) (uG:Int),v5 = .int .i64 afM∧v6 = .int .i64 o7∧v14 = .int .i64 uG∧aj (iw.l0 kq (wrap64 ((ji2) / 762123384786)) ((ji2) % 762123384786) afM o7 uG=some r)∧aj (kq≤k)∧aj (Below w.heap.size w w'))
 case atStart=>exact ⟨(1099511627776),(1099511627776),(0),zT,zT,zT,H',⟨Nat.le_refl _⟩,⟨zB⟩⟩
 case round =>
  clear H'
  obtain ⟨afM,o7,uG,rfl,rfl,rfl,HA,HK1,HB⟩:=hrel
  cases gk with
  | zero=>exact absurd HA.out (by simp [iw.l0])
  | succ k1 =>
   have H:=HA.out
   clear HA
   simp only [iw.l0] at H
   by_cases c3:uG < 16
   ·rw [if_pos c3] at H
    have fK:=decide_eq_true c3
    clear c3
    replace H:=zO H
    obtain ⟨t183,A4,H⟩:=H
    try dsimp only at H
    by_cases c5:(Int.tmod uG 2)=0
    ·rw [if_pos c5] at H
     have iJ:((Int.tmod uG 2) == 0)=true:=beq_iff_eq.mpr c5
     have abq:((Int.tmod uG 2) != 0)=false:=bne_eq_false_iff_eq.mpr c5
     clear c5
     have H':=aj.mk H
     clear H
     go_wp2_with (first|((with_reducible refine aA (f:=130) rfl ?_);refine aH (some 22) rfl rfl Tryz.func130 (by kernel_rfl) rfl #[.int .i64 o7,.int .i64 ((ji2) % 762123384786),.int .i64 (wrap64 ((wrap64 (uG+1))*1099511627776))] rfl (by (try simp only [List.map_toArray,List.map_cons,List.map_nil]);first|done|(simp only [zJ];rfl)|(simp only [Int.tdiv_eq_ediv_of_nonneg amT];rfl)|rfl|(simp only [List.length_drop,List.length_take];rfl)) ?_;(with_reducible refine (aZ.calls k1 o7 ((ji2) % 762123384786) (wrap64 ((wrap64 (uG+1))*1099511627776)) t183 _ A4.out).mono ?_);rintro e w' ⟨rfl,⟨nd,rfl⟩⟩;refine ⟨_,rfl,?_⟩))
     go_roundg k1
     case measure=>have:=HK1.out;omega
     case rel=>exact ⟨(wrap64 (afM - t183)),(t183),(wrap64 (uG+1)),zT,zT,zT,H',⟨by have:=HK1.out;omega⟩,⟨zB⟩⟩
    ·rw [if_neg c5] at H
     have iJ:((Int.tmod uG 2) == 0)=false:=beq_eq_false_iff_ne.mpr c5
     have abq:((Int.tmod uG 2) != 0)=true:=bne_iff_ne.mpr c5
     have H':=aj.mk H
     clear H
     go_wp2_with (first|((with_reducible refine aA (f:=130) rfl ?_);refine aH (some 22) rfl rfl Tryz.func130 (by kernel_rfl) rfl #[.int .i64 o7,.int .i64 ((ji2) % 762123384786),.int .i64 (wrap64 ((wrap64 (uG+1))*1099511627776))] rfl (by (try simp only [List.map_toArray,List.map_cons,List.map_nil]);first|done|(simp only [zJ];rfl)|(simp only [Int.tdiv_eq_ediv_of_nonneg amT];rfl)|rfl|(simp only [List.length_drop,List.length_take];rfl)) ?_;(with_reducible refine (aZ.calls k1 o7 ((ji2) % 762123384786) (wrap64 ((wrap64 (uG+1))*1099511627776)) t183 _ A4.out).mono ?_);rintro e w' ⟨rfl,⟨nd,rfl⟩⟩;refine ⟨_,rfl,?_⟩))
     go_roundg k1
     case measure=>have:=HK1.out;omega
     case rel=>exact ⟨(wrap64 (afM+t183)),(t183),(wrap64 (uG+1)),zT,zT,zT,H',⟨by have:=HK1.out;omega⟩,⟨zB⟩⟩
   ·rw [if_neg c3] at H
    have fK:=decide_eq_false c3
    clear c3
    replace H:=zO H
    obtain ⟨apI,A6,H⟩:=H
    try dsimp only at H
    obtain rfl:=Option.some.inj H
    go_wp2_with (first|((with_reducible refine aA (f:=100) rfl ?_);refine aH (some 35) rfl rfl Tryz.func100 (by kernel_rfl) rfl #[.int .i64 afM,.int .i64 (wrap64 ((ji2) / 762123384786))] rfl (by (try simp only [List.map_toArray,List.map_cons,List.map_nil]);first|done|(simp only [zJ];rfl)|(simp only [Int.tdiv_eq_ediv_of_nonneg amT];rfl)|rfl|(simp only [List.length_drop,List.length_take];rfl)) ?_;(with_reducible refine (mg.calls afM (wrap64 ((ji2) / 762123384786)) apI _ A6.out).mono ?_);rintro e w' ⟨rfl,⟨nd,rfl⟩⟩;refine ⟨_,rfl,?_⟩))
    go_ret
    exact ⟨by first|rfl|(simp [bG,bH] <;> rfl)|(simp only [← zJ];first|rfl|(simp [bG,bH] <;> rfl))|(simp [*,bG,bH] <;> rfl),zB⟩
def mF.f (k:Nat) (a0 a1:Int):Option (Int):=if a1 < 1 then (some 9223372036854775807) else (if a1 > 4194304 then (some 9223372036854775807) else (if a0 < (-16384) then (some 9223372036854775807) else (if a0 > 16384 then (some 9223372036854775807) else ((aZ.f k (wrap64 ((wrap64 (a0*a0))*2147483648)) 1099511627776 (wrap64 (a1*a1))).bind fun apJ=>(some apJ)))))
theorem mF.mono:∀ a0 a1 k,LeO (mF.f k a0 a1) (mF.f (k+1) a0 a1):=by
 intro a0 a1 k
 unfold mF.f
 repeat' (with_reducible first|exact aZ.mono _ _ _ _|exact zM|refine LeO.ite ?_ ?_|refine LeO.bind ?_ (fun _ => ?_))
set_option maxHeartbeats 8000000 in
set_option maxRecDepth 100000 in
theorem mF.calls (k:Nat) (a0 a1 r:Int) (w:World) (h:mF.f k a0 a1=some r) :
  Calls Tryz.prog 168 #[.int .i64 a0,.int .i64 a1] w fun e w'=>e = .returned (.int .i64 r)∧dw w w':=by
 have H:=h
 clear h
 unfold mF.f at H
 by_cases c3:a1 < 1
 ·rw [if_pos c3] at H
  have fK:=decide_eq_true c3
  clear c3
  obtain rfl:=Option.some.inj H
  go_enter Tryz.func168,Tryz.ntmps168
  go_wp2
  go_ret
  exact ⟨zT,zW⟩
 ·rw [if_neg c3] at H
  have fK:=decide_eq_false c3
  clear c3
  by_cases c4:a1 > 4194304
  ·rw [if_pos c4] at H
   have fQ:=decide_eq_true c4
   clear c4
   obtain rfl:=Option.some.inj H
   go_enter Tryz.func168,Tryz.ntmps168
   go_wp2
   go_ret
   exact ⟨zT,zW⟩
  ·rw [if_neg c4] at H
   have fQ:=decide_eq_false c4
   clear c4
   by_cases c5:a0 < (-16384)
   ·rw [if_pos c5] at H
    have iJ:=decide_eq_true c5
    clear c5
    obtain rfl:=Option.some.inj H
    go_enter Tryz.func168,Tryz.ntmps168
    go_wp2
    go_ret
    exact ⟨zT,zW⟩
   ·rw [if_neg c5] at H
    have iJ:=decide_eq_false c5
    clear c5
    by_cases c6:a0 > 16384
    ·rw [if_pos c6] at H
     have ig:=decide_eq_true c6
     clear c6
     obtain rfl:=Option.some.inj H
     go_enter Tryz.func168,Tryz.ntmps168
     go_wp2
     go_ret
     exact ⟨zT,zW⟩
    ·rw [if_neg c6] at H
     have ig:=decide_eq_false c6
     clear c6
     replace H:=zO H
     obtain ⟨apJ,A7,H⟩:=H
     try dsimp only at H
     obtain rfl:=Option.some.inj H
     go_enter Tryz.func168,Tryz.ntmps168
     go_wp2_with (first|((with_reducible refine aA (f:=130) rfl ?_);refine aH (some 26) rfl rfl Tryz.func130 (by kernel_rfl) rfl #[.int .i64 (wrap64 ((wrap64 (a0*a0))*2147483648)),.int .i64 1099511627776,.int .i64 (wrap64 (a1*a1))] rfl zL ?_;(with_reducible refine (aZ.calls k (wrap64 ((wrap64 (a0*a0))*2147483648)) 1099511627776 (wrap64 (a1*a1)) apJ _ A7.out).mono ?_);rintro e w' ⟨rfl,⟨nd,rfl⟩⟩;refine ⟨_,rfl,?_⟩))
     go_ret
     exact ⟨zT,zW⟩
def kK.f (k:Nat) (a0 a1:Int):Option (Int):=(mF.f k a0 a1).bind fun aku=>((iw.f k aku).bind fun akv=>((mg.f akv 10).bind fun apK=>(some apK)))
theorem kK.mono:∀ a0 a1 k,LeO (kK.f k a0 a1) (kK.f (k+1) a0 a1):=by
 intro a0 a1 k
 unfold kK.f
 repeat' (with_reducible first|exact iw.mono _ _|exact mF.mono _ _ _|exact zM|refine LeO.ite ?_ ?_|refine LeO.bind ?_ (fun _ => ?_))
set_option maxHeartbeats 8000000 in
set_option maxRecDepth 100000 in
theorem kK.calls (k:Nat) (a0 a1 r:Int) (w:World) (h:kK.f k a0 a1=some r) :
  Calls Tryz.prog 137 #[.int .i64 a0,.int .i64 a1] w fun e w'=>e = .returned (.int .i64 r)∧Below w.heap.size w w':=by
 have HB:=aj.mk (Below.refl w.heap.size w)
 have H:=h
 clear h
 unfold kK.f at H
 replace H:=zO H
 obtain ⟨aku,A3,H⟩:=H
 try dsimp only at H
 replace H:=zO H
 obtain ⟨akv,A4,H⟩:=H
 try dsimp only at H
 replace H:=zO H
 obtain ⟨apK,A5,H⟩:=H
 try dsimp only at H
 obtain rfl:=Option.some.inj H
 go_enter Tryz.func137,Tryz.ntmps137
 go_wp2_with (first|((with_reducible refine aA (f:=168) rfl ?_);refine aH (some 7) rfl rfl Tryz.func168 (by kernel_rfl) rfl #[.int .i64 a0,.int .i64 a1] rfl zL ?_;(with_reducible refine (mF.calls k a0 a1 aku _ A3.out).mono ?_);rintro e w' ⟨rfl,⟨nd,rfl⟩⟩;refine ⟨_,rfl,?_⟩)|((with_reducible refine aA (f:=167) rfl ?_);refine aH (some 8) rfl rfl Tryz.func167 (by kernel_rfl) rfl #[.int .i64 aku] rfl zL ?_;(with_reducible refine (iw.calls k aku akv _ A4.out).mono ?_);rintro e w6 ⟨rfl,hb⟩;refine ⟨_,rfl,?_⟩;replace HB:=aj.mk (ak zB hb);(try clear hb))|((with_reducible refine aA (f:=100) rfl ?_);refine aH (some 9) rfl rfl Tryz.func100 (by kernel_rfl) rfl #[.int .i64 akv,.int .i64 10] rfl zL ?_;(with_reducible refine (mg.calls akv 10 apK _ A5.out).mono ?_);rintro e w' ⟨rfl,⟨nd,rfl⟩⟩;refine ⟨_,rfl,?_⟩))
 go_ret
 exact ⟨zS,zB⟩
end Go.Proofs.YtpondkggmcmpfaaGreatDoor.QA
namespace Go.Proofs.YtpondkggmcmpfaaGreatDoor.QA
open Go.Proofs.YtpondkggmcmpfaaGreatDoor.T
open Go.RowKit Go.Proofs.YtpondkggmcmpfaaGreatDoorW.PrintWords Go.Proofs.YtpondkggmcmpfaaGreatDoorW.PrintLast Go.Proofs.YtpondkggmcmpfaaGreatDoorW.PrintMore
attribute [local go_sem] eP dV dW fM fO
set_option linter.unusedVariables false
set_option linter.unusedSimpArgs false
mutual
def bn.j0:Nat→Int→Bool→Option (List Int × Int)
 | 0,_,_=>none
 | k+1,x0,x12=>if x12=true then (some (([]:List Int),7)) else (bn.l0 k x0 ((wrap64 ((wrap64 ((wrap64 (3*x0))+65536)) - 1)) / 65536) ([]:List Int) (wrap64 (-((wrap64 ((wrap64 ((wrap64 (3*x0))+65536)) - 1)) / 65536))))
def bn.l0:Nat→Int→Int→List Int→Int→Option (List Int × Int)
 | 0,_,_,_,_=>none
 | k+1,x0,x4,x5,x6=>if x6≤x4 then ((kK.f k x6 x0).bind fun ahN=>(if x5.length < 17592186044416 then (bn.l0 k x0 x4 (x5 ++ [ahN]) (wrap64 (x6+1))) else (none))) else (some (x5,0))
end
def bn.f (k:Nat) (a0:Int):Option (List Int × Int):=if a0 < 1 then (bn.j0 k a0 true) else (bn.j0 k a0 (decide (a0 > 4194304)))
theorem bn.iQ:∀ k,(∀ y0 y1,LeO (bn.j0 k y0 y1) (bn.j0 (k+1) y0 y1))∧(∀ y0 y1 y2 y3,LeO (bn.l0 k y0 y1 y2 y3) (bn.l0 (k+1) y0 y1 y2 y3))
 | 0=>⟨fun _ _ r h=>by simp [bn.j0] at h,fun _ _ _ _ r h=>by simp [bn.l0] at h⟩
 | k+1=>by
  obtain ⟨ih0,ih1⟩:=bn.iQ k
  refine ⟨?_,?_⟩
  ·intro y0 y1
   unfold bn.j0
   repeat' (with_reducible first|exact ih0 _ _|exact ih1 _ _ _ _|exact kK.mono _ _ _|exact zM|refine LeO.ite ?_ ?_|refine LeO.bind ?_ (fun _ => ?_))
  ·intro y0 y1 y2 y3
   unfold bn.l0
   repeat' (with_reducible first|exact ih0 _ _|exact ih1 _ _ _ _|exact kK.mono _ _ _|exact zM|refine LeO.ite ?_ ?_|refine LeO.bind ?_ (fun _ => ?_))
theorem bn.mono:∀ a0 k,LeO (bn.f k a0) (bn.f (k+1) a0):=by
 intro a0 k
 obtain ⟨ih0,ih1⟩:=bn.iQ k
 unfold bn.f
 repeat' (with_reducible first|exact ih0 _ _|exact ih1 _ _ _ _|exact kK.mono _ _ _|exact zM|refine LeO.ite ?_ ?_|refine LeO.bind ?_ (fun _ => ?_))
set_option maxHeartbeats 8000000 in
set_option maxRecDepth 100000 in
theorem bn.calls (k:Nat) (a0:Int) (r1:List Int) (r2:Int) (w:World) (h:bn.f k a0=some (r1,r2)) :
  Calls Tryz.prog 110 #[.int .i64 a0] w fun e w'=>∃ v0_:Value,e = .returned (.tuple #[v0_,.int .i64 r2])∧Kd.R (Kd.int .i64) 2 w' w.heap.size (fun _=>True) v0_ r1∧Below w.heap.size w w':=by
 have HB:=aj.mk (Below.refl w.heap.size w)
 have H:=h
 clear h
 unfold bn.f at H
 have HC2:=aj.mk H
 clear H
 go_enter Tryz.func110,Tryz.ntmps110
 go_upto_region 1 with (fail)
 go_cut [12] (fun v12 wc=>∃ (kq:Nat) (aaY:Bool),v12 = .bool aaY∧aj (bn.j0 kq a0 aaY=some (r1,r2))∧aj (kq≤k)∧aj (Below w.heap.size w wc))
 case first =>
  have H:=HC2.out
  clear HC2
  by_cases c3:a0 < 1
  ·rw [if_pos c3] at H
   have fK:=decide_eq_true c3
   clear c3
   (first|rw [fK]|(simp only [bW,dh];rw [fK])|skip)
   have H':=aj.mk H
   clear H
   go_wp2
   go_meet
   case rel=>exact ⟨_,(true),zT,H',⟨by first|omega|exact Nat.le_refl _⟩,⟨zB⟩⟩
  ·rw [if_neg c3] at H
   have fK:=decide_eq_false c3
   clear c3
   (first|rw [fK]|(simp only [bW,dh];rw [fK])|skip)
   have H':=aj.mk H
   clear H
   go_wp2
   go_meet
   case rel=>exact ⟨_,(decide (a0 > 4194304)),zT,H',⟨by first|omega|exact Nat.le_refl _⟩,⟨zB⟩⟩
 case rest =>
  clear HC2
  obtain ⟨kq,aaY,rfl,HA,HJ1,HB⟩:=hcut
  cases kq with
  | zero=>exact absurd HA.out (by simp [bn.j0])
  | succ kj1 =>
   have H:=HA.out
   clear HA
   simp only [bn.j0] at H
   by_cases c4:aaY=true
   ·subst c4
    rw [if_pos rfl] at H;try dsimp only at H
    simp only [Option.some.injEq,Prod.mk.injEq] at H
    obtain ⟨rfl,rfl⟩:=H
    go_wp2
    go_ret2
    exact ⟨_,zS,by first|exact Kd.jY _ _ _ _ _|exact Kd.oJ _ _ _ _ _|exact Kd.nG _ _ _ _ _|exact Kd.oK _ _ _ _ _|exact Kd.oz _ _ _ _ _,zB⟩
   ·replace c4:=Bool.eq_false_iff.mpr c4
    subst c4
    rw [if_neg (show ¬ (false=true) by decide)] at H;try dsimp only at H
    have H':=aj.mk H
    clear H
    go_wp2
    go_loopg [5,6] kj1 (fun kq v5 v6 w'=>∃ (lQ:List Int) (wL:Int),v6 = .int .i64 wL∧aj (bn.l0 kq a0 ((wrap64 ((wrap64 ((wrap64 (3*a0))+65536)) - 1)) / 65536) lQ wL=some (r1,r2))∧aj (kq≤kj1)∧aj (Kd.R (Kd.int .i64) 2 w' w.heap.size (fun _=>True) v5 lQ)∧aj (Below w.heap.size w w'))
    case atStart=>exact ⟨(([]:List Int)),(wrap64 (-((wrap64 ((wrap64 ((wrap64 (3*a0))+65536)) - 1)) / 65536))),zT,H',⟨Nat.le_refl _⟩,⟨by first|exact Kd.jY _ _ _ _ _|exact Kd.oJ _ _ _ _ _|exact Kd.nG _ _ _ _ _|exact Kd.oK _ _ _ _ _|exact Kd.oz _ _ _ _ _⟩,⟨zB⟩⟩
    case round =>
     clear H'
     obtain ⟨lQ,wL,rfl,HA,HK2,wz,HB⟩:=hrel
     cases gk with
     | zero=>exact absurd HA.out (by simp [bn.l0])
     | succ k2 =>
      have H:=HA.out
      clear HA
      simp only [bn.l0] at H
      by_cases c5:wL≤((wrap64 ((wrap64 ((wrap64 (3*a0))+65536)) - 1)) / 65536)
      ·rw [if_pos c5] at H
       have iJ:=decide_eq_true c5
       clear c5
       replace H:=zO H
       obtain ⟨ahN,A6,H⟩:=H
       try dsimp only at H
       by_cases c7:lQ.length < 17592186044416
       ·rw [if_pos c7] at H
        have avT:=aj.mk c7
        clear c7
        obtain ⟨asI,agQ⟩:∃ y_:List Int,y_=(lQ ++ [ahN]):=⟨_,rfl⟩
        replace H:(bn.l0 k2 a0 ((wrap64 ((wrap64 ((wrap64 (3*a0))+65536)) - 1)) / 65536) asI (wrap64 (wL+1)))=some (r1,r2):=by first|(rw [agQ];with_reducible exact H)|(have H2_:=(Option.bind_some _ _).symm.trans H;rw [agQ];with_reducible exact H2_)|(have H2_:=(Option.bind_some _ _).symm.trans H;with_reducible exact H2_)|with_reducible exact H|(rw [agQ];exact H)|exact H
        have auE:=aj.mk agQ
        clear agQ
        have H':=aj.mk H
        clear H
        go_wp2_with (first|((with_reducible refine aA (f:=137) rfl ?_);refine aH (some 28) rfl rfl Tryz.func137 (by kernel_rfl) rfl #[.int .i64 wL,.int .i64 a0] rfl zL ?_;(with_reducible refine (kK.calls k2 wL a0 ahN _ A6.out).mono ?_);rintro e w8 ⟨rfl,hb⟩;refine ⟨_,rfl,?_⟩;obtain ⟨wz,HB⟩:=zA2 (Kd.jK (by (with_reducible repeat (first|apply Kd.aK|apply Kd.aQ|apply Kd.aW));exact wz.out) hb) (ak zB hb);(try clear hb))|((with_reducible refine jD (b := .append) (xs := #[.tmp 25,.tmp 29]) rfl ?_);at_builtin;refine Kd.kT (Kd.int .i64) (w0:=w) w.heap.size rfl (.tmp 25) (.tmp 29) 44 2 (.int .i64 0) 8 rfl Tryz.underlying44 vw rfl (by decide) (by omega) u5 lQ ahN [.int .i64 ahN] (fun _=>True) (fun _=>False) rfl rfl ?aP (fun _ hk=>hk.elim) ?aF ?aO ?aB ?aS ?aL ?_;(case aP=>exact rfl);(case aB=>exact zB);(case aF=>exact (fun _ _=>trivial));(case aO=>exact (by (with_reducible repeat (first|apply Kd.aK|apply Kd.aQ|apply Kd.aW));exact wz.out));(case aS=>exact (bF zB));(case aL=>have:=avT.out;omega);intro aAT w9 ho hb hg hat;rw [← auE.out] at ho;obtain ⟨HB,auF⟩:=zA2 hb ho;clear ho hb hg hat))
        go_roundg k2
        case measure=>have:=HJ1.out;have:=HK2.out;omega
        case rel=>exact ⟨(asI),(wrap64 (wL+1)),zT,H',⟨by have:=HJ1.out;have:=HK2.out;omega⟩,⟨by (with_reducible repeat (first|apply Kd.aK|apply Kd.aQ|apply Kd.aW));exact auF.out⟩,⟨zB⟩⟩
       ·rw [if_neg c7] at H
        exact absurd H (by simp)
      ·rw [if_neg c5] at H
       have iJ:=decide_eq_false c5
       clear c5
       simp only [Option.some.injEq,Prod.mk.injEq] at H
       obtain ⟨rfl,rfl⟩:=H
       go_wp2
       go_ret2
       exact ⟨_,zS,by (with_reducible repeat (first|apply Kd.aK|apply Kd.aQ|apply Kd.aW));exact wz.out,zB⟩
end Go.Proofs.YtpondkggmcmpfaaGreatDoor.QA
namespace Go.Proofs.YtpondkggmcmpfaaGreatDoor.QA
open Go.Proofs.YtpondkggmcmpfaaGreatDoor.T
open Go.RowKit Go.Proofs.YtpondkggmcmpfaaGreatDoorW.PrintWords Go.Proofs.YtpondkggmcmpfaaGreatDoorW.PrintLast Go.Proofs.YtpondkggmcmpfaaGreatDoorW.PrintMore
attribute [local go_sem] eP dV dW fM fO
set_option linter.unusedVariables false
set_option linter.unusedSimpArgs false
mutual
def fG.j0:Nat→List Int→Int→Bool→Option (List Int × Int)
 | 0,_,_,_=>none
 | k+1,x0,x4,x26=>if x26=true then (some (([]:List Int),7)) else (fG.l0 k x4 ([]:List Int) x0 (x0.length:Int) 0)
def fG.l0:Nat→Int→List Int→List Int→Int→Int→Option (List Int × Int)
 | 0,_,_,_,_,_=>none
 | k+1,x4,x5,x27,x28,x29=>if x29 < x28 then (if 0≤x29 then (if x29 < (x27.length:Int) then ((aZ.f k (rd x27 x29) 1073741824 x4).bind fun ahO=>(if x5.length < 17592186044416 then (fG.l0 k x4 (x5 ++ [ahO]) x27 x28 (wrap64 (x29+1))) else (none))) else (none)) else (none)) else (some (x5,0))
end
def fG.f (k:Nat) (l0:List Int):Option (List Int × Int):=(jW.f k l0).bind fun t193=>(if ((l0.length:Int) % 2)=0 then (fG.j0 k l0 t193 true) else (if (l0.length:Int) > 1024 then (fG.j0 k l0 t193 true) else (if t193 < 1 then (fG.j0 k l0 t193 true) else (fG.j0 k l0 t193 (decide (t193 > 1048576))))))
set_option maxHeartbeats 8000000 in
set_option maxRecDepth 100000 in
theorem fG.calls (k:Nat) (A0:Option Addr) (c0:Nat) (l0 r1:List Int) (r2:Int) (w:World) (hr0:Kd.C (Kd.int .i64) w A0 l0.length l0) (hc0:l0.length≤c0) (h:fG.f k l0=some (r1,r2)) :
  Calls Tryz.prog 127 #[.slice A0 l0.length c0] w fun e w'=>∃ v0_:Value,e = .returned (.tuple #[v0_,.int .i64 r2])∧Kd.R (Kd.int .i64) 2 w' w.heap.size (fun _=>True) v0_ r1∧Below w.heap.size w w':=by
 have HR0:=aj.mk hr0
 have HC0:=aj.mk hc0
 clear hr0 hc0
 have HB:=aj.mk (Below.refl w.heap.size w)
 have H:=h
 clear h
 unfold fG.f at H
 replace H:=zO H
 obtain ⟨t193,A2,H⟩:=H
 try dsimp only at H
 have HC3:=aj.mk H
 clear H
 go_enter Tryz.func127,Tryz.ntmps127
 go_upto_region 2 with (first|((with_reducible refine aA (f:=138) rfl ?_);refine aH (some 9) rfl rfl Tryz.func138 (by kernel_rfl) rfl #[.slice A0 l0.length c0] rfl zL ?_;(with_reducible refine (jW.calls k _ _ l0 t193 _ ?iG ?iH A2.out).mono ?_);(case iG=>repeat (first|exact HR0.out|(with_reducible refine Kd.jd ?_ _)|(with_reducible refine Kd.jB ?_ _)|(with_reducible refine Kd.kC ?_)));(case iH=>exact HC0.out);rintro e w4 ⟨rfl,hb⟩;refine ⟨_,rfl,?_⟩;replace HB:=aj.mk (ak zB hb);(try clear hb)))
 (try simp only [Act.put,List.setIfInBounds_toArray,List.set_cons_zero,List.set_cons_succ])
 go_cut [26] (fun v26 wc=>∃ (kq:Nat) (aaZ:Bool),v26 = .bool aaZ∧aj (fG.j0 kq l0 t193 aaZ=some (r1,r2))∧aj (kq≤k)∧aj (Below w.heap.size w wc))
 case first =>
  have H:=HC3.out
  clear HC3
  by_cases c5:((l0.length:Int) % 2)=0
  ·rw [if_pos c5] at H
   have iJ:(((l0.length:Int) % 2) == 0)=true:=beq_iff_eq.mpr c5
   have abq:(((l0.length:Int) % 2) != 0)=false:=bne_eq_false_iff_eq.mpr c5
   clear c5
   (first|rw [iJ]|(simp only [bW,dh];rw [iJ])|skip)
   have H':=aj.mk H
   clear H
   go_wp2
   go_meet
   case rel=>exact ⟨_,(true),zT,H',⟨by first|omega|exact Nat.le_refl _⟩,⟨zB⟩⟩
  ·rw [if_neg c5] at H
   have iJ:(((l0.length:Int) % 2) == 0)=false:=beq_eq_false_iff_ne.mpr c5
   have abq:(((l0.length:Int) % 2) != 0)=true:=bne_iff_ne.mpr c5
   (first|rw [iJ]|(simp only [bW,dh];rw [iJ])|skip)
   by_cases c6:(l0.length:Int) > 1024
   ·rw [if_pos c6] at H
    have ig:=decide_eq_true c6
    have uj:decide (1024 < l0.length)=true:=decide_eq_true (by omega)
    clear c6
    have H':=aj.mk H
    clear H
    go_wp2
    go_meet
    case rel=>exact ⟨_,(true),zT,H',⟨by first|omega|exact Nat.le_refl _⟩,⟨zB⟩⟩
   ·rw [if_neg c6] at H
    have ig:=decide_eq_false c6
    have uj:decide (1024 < l0.length)=false:=decide_eq_false (by omega)
    clear c6
    by_cases c7:t193 < 1
    ·rw [if_pos c7] at H
     have jq:=decide_eq_true c7
     clear c7
     have H':=aj.mk H
     clear H
     go_wp2
     go_meet
     case rel=>exact ⟨_,(true),zT,H',⟨by first|omega|exact Nat.le_refl _⟩,⟨zB⟩⟩
    ·rw [if_neg c7] at H
     have jq:=decide_eq_false c7
     clear c7
     have H':=aj.mk H
     clear H
     go_wp2
     go_meet
     case rel=>exact ⟨_,(decide (t193 > 1048576)),zT,H',⟨by first|omega|exact Nat.le_refl _⟩,⟨zB⟩⟩
 case rest =>
  clear HC3
  obtain ⟨kq,aaZ,rfl,HA,HJ2,HB⟩:=hcut
  cases kq with
  | zero=>exact absurd HA.out (by simp [fG.j0])
  | succ kj2 =>
   have H:=HA.out
   clear HA
   simp only [fG.j0] at H
   by_cases c8:aaZ=true
   ·subst c8
    rw [if_pos rfl] at H;try dsimp only at H
    simp only [Option.some.injEq,Prod.mk.injEq] at H
    obtain ⟨rfl,rfl⟩:=H
    go_wp2
    go_ret2
    exact ⟨_,zS,by first|exact Kd.jY _ _ _ _ _|exact Kd.oJ _ _ _ _ _|exact Kd.nG _ _ _ _ _|exact Kd.oK _ _ _ _ _|exact Kd.oz _ _ _ _ _,zB⟩
   ·replace c8:=Bool.eq_false_iff.mpr c8
    subst c8
    rw [if_neg (show ¬ (false=true) by decide)] at H;try dsimp only at H
    have H':=aj.mk H
    clear H
    go_wp2
    go_loopg [5,29] kj2 (fun kq v5 v29 w'=>∃ (lQ:List Int) (lH:Int),v29 = .int .i64 lH∧aj (fG.l0 kq t193 lQ l0 (l0.length:Int) lH=some (r1,r2))∧aj (kq≤kj2)∧aj (Kd.R (Kd.int .i64) 2 w' w.heap.size (fun _=>True) v5 lQ)∧aj (Below w.heap.size w w'))
    case atStart=>exact ⟨(([]:List Int)),(0),zT,H',⟨Nat.le_refl _⟩,⟨by first|exact Kd.jY _ _ _ _ _|exact Kd.oJ _ _ _ _ _|exact Kd.nG _ _ _ _ _|exact Kd.oK _ _ _ _ _|exact Kd.oz _ _ _ _ _⟩,⟨zB⟩⟩
    case round =>
     clear H'
     obtain ⟨lQ,lH,rfl,HA,HK2,wz,HB⟩:=hrel
     cases gk with
     | zero=>exact absurd HA.out (by simp [fG.l0])
     | succ k2 =>
      have H:=HA.out
      clear HA
      simp only [fG.l0] at H
      by_cases c9:lH < (l0.length:Int)
      ·rw [if_pos c9] at H
       have qH:=decide_eq_true c9
       clear c9
       by_cases c10:0≤lH
       ·rw [if_pos c10] at H
        have pO:=decide_eq_true c10
        clear c10
        by_cases c11:lH < (l0.length:Int)
        ·rw [if_pos c11] at H
         have iL:=decide_eq_true c11
         clear c11
         replace H:=zO H
         obtain ⟨ahO,A12,H⟩:=H
         try dsimp only at H
         by_cases c13:lQ.length < 17592186044416
         ·rw [if_pos c13] at H
          have auG:=aj.mk c13
          clear c13
          obtain ⟨asJ,agR⟩:∃ y_:List Int,y_=(lQ ++ [ahO]):=⟨_,rfl⟩
          replace H:(fG.l0 k2 t193 asJ l0 (l0.length:Int) (wrap64 (lH+1)))=some (r1,r2):=by first|(rw [agR];with_reducible exact H)|(have H2_:=(Option.bind_some _ _).symm.trans H;rw [agR];with_reducible exact H2_)|(have H2_:=(Option.bind_some _ _).symm.trans H;with_reducible exact H2_)|with_reducible exact H|(rw [agR];exact H)|exact H
          have auH:=aj.mk agR
          clear agR
          have H':=aj.mk H
          clear H
          have apL:0≤(lH:Int):=of_decide_eq_true (by first|(with_reducible assumption)|assumption)
          have apM:lH < (l0.length:Int):=of_decide_eq_true (by first|(with_reducible assumption)|assumption)
          obtain ⟨az7,avU,ahP⟩:=Kd.jC HR0.out lH apL apM
          cases avU
          replace ahP:=(HB.out.cell (World.block_lt_of_cell? w _ ahP)).trans ahP
          replace apL:=eq_true apL
          replace apM:=eq_true apM
          go_wp2_with (first|((with_reducible refine aA (f:=130) rfl ?_);refine aH (some 36) rfl rfl Tryz.func130 (by kernel_rfl) rfl #[.int .i64 (rd l0 lH),.int .i64 1073741824,.int .i64 t193] rfl zL ?_;(with_reducible refine (aZ.calls k2 (rd l0 lH) 1073741824 t193 ahO _ A12.out).mono ?_);rintro e w' ⟨rfl,⟨nd,rfl⟩⟩;refine ⟨_,rfl,?_⟩)|((with_reducible refine jD (b := .append) (xs := #[.tmp 33,.tmp 37]) rfl ?_);(try (refine jZ (by rfl) ?_;dsimp only));at_builtin;refine Kd.kT (Kd.int .i64) (w0:=w) w.heap.size rfl (.tmp 33) (.tmp 37) 44 2 (.int .i64 0) 8 rfl Tryz.underlying44 vw rfl (by decide) (by omega) u5 lQ ahO [.int .i64 ahO] (fun _=>True) (fun _=>False) rfl rfl ?aP (fun _ hk=>hk.elim) ?aF ?aO ?aB ?aS ?aL ?_;(case aP=>exact rfl);(case aB=>exact zB);(case aF=>exact (fun _ _=>trivial));(case aO=>exact (by (with_reducible repeat (first|apply Kd.aK|apply Kd.aQ|apply Kd.aW));exact wz.out));(case aS=>exact (bF zB));(case aL=>have:=auG.out;omega);intro aAU w14 ho hb hg hat;rw [← auH.out] at ho;obtain ⟨HB,auI⟩:=zA2 hb ho;clear ho hb hg hat))
          go_roundg k2
          case measure=>have:=HJ2.out;have:=HK2.out;omega
          case rel=>exact ⟨(asJ),(wrap64 (lH+1)),zT,H',⟨by have:=HJ2.out;have:=HK2.out;omega⟩,⟨by (with_reducible repeat (first|apply Kd.aK|apply Kd.aQ|apply Kd.aW));exact auI.out⟩,⟨zB⟩⟩
         ·rw [if_neg c13] at H
          exact absurd H (by simp)
        ·rw [if_neg c11] at H
         exact absurd H (by simp)
       ·rw [if_neg c10] at H
        exact absurd H (by simp)
      ·rw [if_neg c9] at H
       have qH:=decide_eq_false c9
       clear c9
       simp only [Option.some.injEq,Prod.mk.injEq] at H
       obtain ⟨rfl,rfl⟩:=H
       go_wp2
       go_ret2
       exact ⟨_,zS,by (with_reducible repeat (first|apply Kd.aK|apply Kd.aQ|apply Kd.aW));exact wz.out,zB⟩
end Go.Proofs.YtpondkggmcmpfaaGreatDoor.QA
namespace Go.Proofs.YtpondkggmcmpfaaGreatDoor.QA
open Go.Proofs.YtpondkggmcmpfaaGreatDoor.T
open Go.RowKit Go.Proofs.YtpondkggmcmpfaaGreatDoorW.PrintWords Go.Proofs.YtpondkggmcmpfaaGreatDoorW.PrintLast Go.Proofs.YtpondkggmcmpfaaGreatDoorW.PrintMore
attribute [local go_sem] eP dV dW fM fO
set_option linter.unusedVariables false
set_option linter.unusedSimpArgs false
def bC.f (a0:Int):Option (Bool):=if a0≥1 then (some (decide (a0≤65536))) else (some false)
set_option maxHeartbeats 8000000 in
set_option maxRecDepth 100000 in
theorem bC.calls (a0:Int) (r:Bool) (w:World) (h:bC.f a0=some r) :
  Calls Tryz.prog 92 #[.int .i64 a0] w fun e w'=>e = .returned (.bool r)∧dw w w':=by
 have H:=h
 clear h
 unfold bC.f at H
 by_cases c2:a0≥1
 ·rw [if_pos c2] at H
  have lN:=decide_eq_true c2
  clear c2
  obtain rfl:=Option.some.inj H
  go_enter Tryz.func92,Tryz.ntmps92
  go_wp2
  go_ret
  exact ⟨by first|rfl|(simp;done)|(simp [*];done)|(simp [Int.tdiv_eq_ediv_of_nonneg (show (0:Int)≤268435456 by decide)];done),zW⟩
 ·rw [if_neg c2] at H
  have lN:=decide_eq_false c2
  clear c2
  obtain rfl:=Option.some.inj H
  go_enter Tryz.func92,Tryz.ntmps92
  go_wp2
  go_ret
  exact ⟨by first|rfl|(simp;done)|(simp [*];done)|(simp [Int.tdiv_eq_ediv_of_nonneg (show (0:Int)≤268435456 by decide)];done),zW⟩
def iE.f (a0:Int):Option (Bool):=if a0≥1 then (some (decide (a0≤65536))) else (some false)
set_option maxHeartbeats 8000000 in
set_option maxRecDepth 100000 in
theorem iE.calls (a0:Int) (r:Bool) (w:World) (h:iE.f a0=some r) :
  Calls Tryz.prog 113 #[.int .i64 a0] w fun e w'=>e = .returned (.bool r)∧dw w w':=by
 have H:=h
 clear h
 unfold iE.f at H
 by_cases c2:a0≥1
 ·rw [if_pos c2] at H
  have lN:=decide_eq_true c2
  clear c2
  obtain rfl:=Option.some.inj H
  go_enter Tryz.func113,Tryz.ntmps113
  go_wp2
  go_ret
  exact ⟨by first|rfl|(simp;done)|(simp [*];done)|(simp [Int.tdiv_eq_ediv_of_nonneg (show (0:Int)≤268435456 by decide)];done),zW⟩
 ·rw [if_neg c2] at H
  have lN:=decide_eq_false c2
  clear c2
  obtain rfl:=Option.some.inj H
  go_enter Tryz.func113,Tryz.ntmps113
  go_wp2
  go_ret
  exact ⟨by first|rfl|(simp;done)|(simp [*];done)|(simp [Int.tdiv_eq_ediv_of_nonneg (show (0:Int)≤268435456 by decide)];done),zW⟩
end Go.Proofs.YtpondkggmcmpfaaGreatDoor.QA
namespace Go.Proofs.YtpondkggmcmpfaaGreatDoor.QA
open Go.Proofs.YtpondkggmcmpfaaGreatDoor.T
open Go.RowKit Go.Proofs.YtpondkggmcmpfaaGreatDoorW.PrintWords Go.Proofs.YtpondkggmcmpfaaGreatDoorW.PrintLast Go.Proofs.YtpondkggmcmpfaaGreatDoorW.PrintMore
attribute [local go_sem] eP dV dW fM fO
set_option linter.unusedVariables false
set_option linter.unusedSimpArgs false
def kM.f (a0 a1 a2 a3:Int):Option (Bool):=if a0≥0 then (if a0≤2 then (if a1≥1 then (if a1≤65536 then (if a2≥1 then (if a2≤65536 then (if a3≥0 then (some (decide (a3 < a2))) else (some false)) else (some false)) else (some false)) else (some false)) else (some false)) else (some false)) else (some false)
set_option maxHeartbeats 8000000 in
set_option maxRecDepth 100000 in
theorem kM.calls (a0 a1 a2 a3:Int) (r:Bool) (w:World) (h:kM.f a0 a1 a2 a3=some r) :
  Calls Tryz.prog 139 #[.int .i64 a0,.int .i64 a1,.int .i64 a2,.int .i64 a3] w fun e w'=>e = .returned (.bool r)∧dw w w':=by
 have H:=h
 clear h
 unfold kM.f at H
 by_cases c5:a0≥0
 ·rw [if_pos c5] at H
  have iJ:=decide_eq_true c5
  clear c5
  by_cases c6:a0≤2
  ·rw [if_pos c6] at H
   have ig:=decide_eq_true c6
   clear c6
   by_cases c7:a1≥1
   ·rw [if_pos c7] at H
    have jq:=decide_eq_true c7
    clear c7
    by_cases c8:a1≤65536
    ·rw [if_pos c8] at H
     have vN:=decide_eq_true c8
     clear c8
     by_cases c9:a2≥1
     ·rw [if_pos c9] at H
      have qH:=decide_eq_true c9
      clear c9
      by_cases c10:a2≤65536
      ·rw [if_pos c10] at H
       have pO:=decide_eq_true c10
       clear c10
       by_cases c11:a3≥0
       ·rw [if_pos c11] at H
        have iL:=decide_eq_true c11
        clear c11
        obtain rfl:=Option.some.inj H
        go_enter Tryz.func139,Tryz.ntmps139
        go_wp2
        go_ret
        exact ⟨zT,zW⟩
       ·rw [if_neg c11] at H
        have iL:=decide_eq_false c11
        clear c11
        obtain rfl:=Option.some.inj H
        go_enter Tryz.func139,Tryz.ntmps139
        go_wp2
        go_ret
        exact ⟨zT,zW⟩
      ·rw [if_neg c10] at H
       have pO:=decide_eq_false c10
       clear c10
       obtain rfl:=Option.some.inj H
       go_enter Tryz.func139,Tryz.ntmps139
       go_wp2
       go_ret
       exact ⟨zT,zW⟩
     ·rw [if_neg c9] at H
      have qH:=decide_eq_false c9
      clear c9
      obtain rfl:=Option.some.inj H
      go_enter Tryz.func139,Tryz.ntmps139
      go_wp2
      go_ret
      exact ⟨zT,zW⟩
    ·rw [if_neg c8] at H
     have vN:=decide_eq_false c8
     clear c8
     obtain rfl:=Option.some.inj H
     go_enter Tryz.func139,Tryz.ntmps139
     go_wp2
     go_ret
     exact ⟨zT,zW⟩
   ·rw [if_neg c7] at H
    have jq:=decide_eq_false c7
    clear c7
    obtain rfl:=Option.some.inj H
    go_enter Tryz.func139,Tryz.ntmps139
    go_wp2
    go_ret
    exact ⟨zT,zW⟩
  ·rw [if_neg c6] at H
   have ig:=decide_eq_false c6
   clear c6
   obtain rfl:=Option.some.inj H
   go_enter Tryz.func139,Tryz.ntmps139
   go_wp2
   go_ret
   exact ⟨zT,zW⟩
 ·rw [if_neg c5] at H
  have iJ:=decide_eq_false c5
  clear c5
  obtain rfl:=Option.some.inj H
  go_enter Tryz.func139,Tryz.ntmps139
  go_wp2
  go_ret
  exact ⟨zT,zW⟩
def fJ.f (a0 a1 a2 a3:Int):Option (Int × Int):=if a1 > a0 then (some (wrap64 ((wrap64 ((wrap64 ((wrap64 (2*a1))*a3)) - (wrap64 ((wrap64 ((wrap64 (2*a2))+1))*a0))))+a1),wrap64 (2*a1))) else (some (wrap64 ((wrap64 ((wrap64 ((wrap64 (2*a1))*a3)) - (wrap64 ((wrap64 ((wrap64 (2*a2))+1))*a0))))+a1),wrap64 (2*a0)))
set_option maxHeartbeats 8000000 in
set_option maxRecDepth 100000 in
theorem fJ.calls (a0 a1 a2 a3 r1 r2:Int) (w:World) (h:fJ.f a0 a1 a2 a3=some (r1,r2)) :
  Calls Tryz.prog 169 #[.int .i64 a0,.int .i64 a1,.int .i64 a2,.int .i64 a3] w fun e w'=>e = .returned (.tuple #[.int .i64 r1,.int .i64 r2])∧dw w w':=by
 have H:=h
 clear h
 unfold fJ.f at H
 by_cases c5:a1 > a0
 ·rw [if_pos c5] at H
  have iJ:=decide_eq_true c5
  clear c5
  simp only [Option.some.injEq,Prod.mk.injEq] at H
  obtain ⟨rfl,rfl⟩:=H
  go_enter Tryz.func169,Tryz.ntmps169
  go_wp2
  go_ret2
  exact ⟨zT,zW⟩
 ·rw [if_neg c5] at H
  have iJ:=decide_eq_false c5
  clear c5
  simp only [Option.some.injEq,Prod.mk.injEq] at H
  obtain ⟨rfl,rfl⟩:=H
  go_enter Tryz.func169,Tryz.ntmps169
  go_wp2
  go_ret2
  exact ⟨zT,zW⟩
def iR.f (a0 a1 a2 a3 a4:Int):Option (Bool):=if a0=0 then (if (wrap64 ((wrap64 (a4+1))*a2)) > (wrap64 (a3*a1)) then (some (decide ((wrap64 (a4*a2)) < (wrap64 ((wrap64 (a3+1))*a1))))) else (some false)) else ((fJ.f a1 a2 a3 a4).bind fun abU=>(if a0=2 then (if abU.1 < (wrap64 (3*abU.2)) then (some (decide (abU.1 > (wrap64 (-(wrap64 (3*abU.2))))))) else (some false)) else (if abU.1 < (wrap64 (2*abU.2)) then (some (decide (abU.1 > (wrap64 (-(wrap64 (2*abU.2))))))) else (some false))))
set_option maxHeartbeats 8000000 in
set_option maxRecDepth 100000 in
theorem iR.calls (a0 a1 a2 a3 a4:Int) (r:Bool) (w:World) (h:iR.f a0 a1 a2 a3 a4=some r) :
  Calls Tryz.prog 140 #[.int .i64 a0,.int .i64 a1,.int .i64 a2,.int .i64 a3,.int .i64 a4] w fun e w'=>e = .returned (.bool r)∧dw w w':=by
 have H:=h
 clear h
 unfold iR.f at H
 by_cases c6:a0=0
 ·rw [if_pos c6] at H
  have ig:(a0 == 0)=true:=beq_iff_eq.mpr c6
  have uj:(a0 != 0)=false:=bne_eq_false_iff_eq.mpr c6
  clear c6
  by_cases c7:(wrap64 ((wrap64 (a4+1))*a2)) > (wrap64 (a3*a1))
  ·rw [if_pos c7] at H
   have jq:=decide_eq_true c7
   clear c7
   obtain rfl:=Option.some.inj H
   go_enter Tryz.func140,Tryz.ntmps140
   go_wp2
   go_ret
   exact ⟨zT,zW⟩
  ·rw [if_neg c7] at H
   have jq:=decide_eq_false c7
   clear c7
   obtain rfl:=Option.some.inj H
   go_enter Tryz.func140,Tryz.ntmps140
   go_wp2
   go_ret
   exact ⟨zT,zW⟩
 ·rw [if_neg c6] at H
  have ig:(a0 == 0)=false:=beq_eq_false_iff_ne.mpr c6
  have uj:(a0 != 0)=true:=bne_iff_ne.mpr c6
  replace H:=zO H
  obtain ⟨⟨ahQ,ahR⟩,A8,H⟩:=H
  try dsimp only at H
  by_cases c9:a0=2
  ·rw [if_pos c9] at H
   have qH:(a0 == 2)=true:=beq_iff_eq.mpr c9
   have afg:(a0 != 2)=false:=bne_eq_false_iff_eq.mpr c9
   clear c9
   by_cases c10:ahQ < (wrap64 (3*ahR))
   ·rw [if_pos c10] at H
    have pO:=decide_eq_true c10
    clear c10
    obtain rfl:=Option.some.inj H
    go_enter Tryz.func140,Tryz.ntmps140
    go_wp2_with (first|((with_reducible refine aA (f:=169) rfl ?_);refine aH (some 39) rfl rfl Tryz.func169 (by kernel_rfl) rfl #[.int .i64 a1,.int .i64 a2,.int .i64 a3,.int .i64 a4] rfl zL ?_;(with_reducible refine (fJ.calls a1 a2 a3 a4 ahQ ahR _ A8.out).mono ?_);rintro e w' ⟨rfl,⟨nd,rfl⟩⟩;refine ⟨_,rfl,?_⟩))
    go_ret
    exact ⟨zT,zW⟩
   ·rw [if_neg c10] at H
    have pO:=decide_eq_false c10
    clear c10
    obtain rfl:=Option.some.inj H
    go_enter Tryz.func140,Tryz.ntmps140
    go_wp2_with (first|((with_reducible refine aA (f:=169) rfl ?_);refine aH (some 39) rfl rfl Tryz.func169 (by kernel_rfl) rfl #[.int .i64 a1,.int .i64 a2,.int .i64 a3,.int .i64 a4] rfl zL ?_;(with_reducible refine (fJ.calls a1 a2 a3 a4 ahQ ahR _ A8.out).mono ?_);rintro e w' ⟨rfl,⟨nd,rfl⟩⟩;refine ⟨_,rfl,?_⟩))
    go_ret
    exact ⟨zT,zW⟩
  ·rw [if_neg c9] at H
   have qH:(a0 == 2)=false:=beq_eq_false_iff_ne.mpr c9
   have afg:(a0 != 2)=true:=bne_iff_ne.mpr c9
   by_cases c11:ahQ < (wrap64 (2*ahR))
   ·rw [if_pos c11] at H
    have iL:=decide_eq_true c11
    clear c11
    obtain rfl:=Option.some.inj H
    go_enter Tryz.func140,Tryz.ntmps140
    go_wp2_with (first|((with_reducible refine aA (f:=169) rfl ?_);refine aH (some 39) rfl rfl Tryz.func169 (by kernel_rfl) rfl #[.int .i64 a1,.int .i64 a2,.int .i64 a3,.int .i64 a4] rfl zL ?_;(with_reducible refine (fJ.calls a1 a2 a3 a4 ahQ ahR _ A8.out).mono ?_);rintro e w' ⟨rfl,⟨nd,rfl⟩⟩;refine ⟨_,rfl,?_⟩))
    go_ret
    exact ⟨zT,zW⟩
   ·rw [if_neg c11] at H
    have iL:=decide_eq_false c11
    clear c11
    obtain rfl:=Option.some.inj H
    go_enter Tryz.func140,Tryz.ntmps140
    go_wp2_with (first|((with_reducible refine aA (f:=169) rfl ?_);refine aH (some 39) rfl rfl Tryz.func169 (by kernel_rfl) rfl #[.int .i64 a1,.int .i64 a2,.int .i64 a3,.int .i64 a4] rfl zL ?_;(with_reducible refine (fJ.calls a1 a2 a3 a4 ahQ ahR _ A8.out).mono ?_);rintro e w' ⟨rfl,⟨nd,rfl⟩⟩;refine ⟨_,rfl,?_⟩))
    go_ret
    exact ⟨zT,zW⟩
def dL.f (a0:Int):Option (Int):=if a0 < 0 then (some (IntKind.u64.wrap ((IntKind.u64.wrap (wrap64 (-(wrap64 (a0+1)))))+1))) else (some (IntKind.u64.wrap (a0)))
set_option maxHeartbeats 8000000 in
set_option maxRecDepth 100000 in
theorem dL.calls (a0 r:Int) (w:World) (h:dL.f a0=some r) :
  Calls Tryz.prog 120 #[.int .i64 a0] w fun e w'=>e = .returned (.int .u64 r)∧dw w w':=by
 have H:=h
 clear h
 unfold dL.f at H
 by_cases c2:a0 < 0
 ·rw [if_pos c2] at H
  have lN:=decide_eq_true c2
  clear c2
  obtain rfl:=Option.some.inj H
  go_enter Tryz.func120,Tryz.ntmps120
  go_wp2
  go_ret
  exact ⟨zT,zW⟩
 ·rw [if_neg c2] at H
  have lN:=decide_eq_false c2
  clear c2
  obtain rfl:=Option.some.inj H
  go_enter Tryz.func120,Tryz.ntmps120
  go_wp2
  go_ret
  exact ⟨zT,zW⟩
def dH.f (bJ dA a1:Int):Option (Int × Int):=some (IntKind.u64.wrap ((IntKind.u64.wrap (bJ*2))+(dA / 9223372036854775808)),IntKind.u64.wrap ((IntKind.u64.wrap (dA*2))+a1))
set_option maxHeartbeats 8000000 in
set_option maxRecDepth 100000 in
theorem dH.calls (bJ dA a1 r1 r2:Int) (w:World) (h:dH.f bJ dA a1=some (r1,r2)) :
  Calls Tryz.prog 119 #[.agg #[.int .u64 bJ,.int .u64 dA],.int .u64 a1] w fun e w'=>e = .returned (.agg #[.int .u64 r1,.int .u64 r2])∧Below w.heap.size w w':=by
 have xq:=Tryz.underlying179
 have HB:=aj.mk (Below.refl w.heap.size w)
 have H:=h
 clear h
 unfold dH.f at H
 simp only [Option.some.injEq,Prod.mk.injEq] at H
 obtain ⟨rfl,rfl⟩:=H
 go_enter Tryz.func119,Tryz.ntmps119
 go_wp2_with (first|((with_reducible refine bK (N:=2) rfl ?_);refine bT zR (N:=2) zR (cs := #[.int .u64 bJ,.int .u64 dA]) (t:=179) zG ?_;intro az8 hg w3 hbox hb;obtain ⟨HB,aeO,az9,aAa⟩:=zA4 (ak zB hb) hbox (zg hg zB) (zg hg zB);clear hb hbox hg)|((with_reducible refine bK (N:=4) rfl ?_);refine bT zR (N:=4) zR (cs := #[.int .u64 0,.int .u64 0]) (t:=179) zG ?_;intro auJ hg w4 hbox hb;obtain ⟨aeO,HB,amU,aAb,aAc,anN,anO⟩:=zA7 (ay (zK aeO) hb) (ak zB hb) hbox (zg hg zB) (zg hg zB) (zl hg (zK aeO)) (zr hg (zK aeO));clear hb hbox hg;have avV:=anN.out;have avW:=anO.out;obtain ⟨_,_⟩:=zC2 aeO.out;obtain ⟨_,_⟩:=zF2 aeO.out;obtain ⟨_,_⟩:=zC2 amU.out;obtain ⟨_,_⟩:=zF2 amU.out))
 refine bodyPost_ret (results_cell_row rfl _ _ auJ 179 #[.int .u64 (IntKind.u64.wrap ((IntKind.u64.wrap (bJ*2))+(dA / 9223372036854775808))),.int .u64 (IntKind.u64.wrap ((IntKind.u64.wrap (dA*2))+a1))] (0,0) _ rfl (by refine zD ?_;refine aY (cs := #[.int .u64 (IntKind.u64.wrap ((IntKind.u64.wrap (bJ*2))+(dA / 9223372036854775808))),.int .u64 0]) ?_ 1 _ rfl;refine zD ?_;refine aY (cs := #[.int .u64 0,.int .u64 0]) ?_ 0 _ rfl;refine zD ?_;exact amU.out) Tryz.underlying179 rfl (by kernel_rfl)) rfl ?_
 exact ⟨zS,zB⟩
def gG.f (bJ dA kN nM:Int):Option (Int × Int):=if (IntKind.u64.wrap (dA+nM)) < dA then (some (IntKind.u64.wrap ((IntKind.u64.wrap (bJ+kN))+1),IntKind.u64.wrap (dA+nM))) else (some (IntKind.u64.wrap (bJ+kN),IntKind.u64.wrap (dA+nM)))
set_option maxHeartbeats 8000000 in
set_option maxRecDepth 100000 in
theorem gG.calls (bJ dA kN nM r1 r2:Int) (w:World) (h:gG.f bJ dA kN nM=some (r1,r2)) :
  Calls Tryz.prog 124 #[.agg #[.int .u64 bJ,.int .u64 dA],.agg #[.int .u64 kN,.int .u64 nM]] w fun e w'=>e = .returned (.agg #[.int .u64 r1,.int .u64 r2])∧Below w.heap.size w w':=by
 have xq:=Tryz.underlying179
 have HB:=aj.mk (Below.refl w.heap.size w)
 have H:=h
 clear h
 unfold gG.f at H
 by_cases c3:(IntKind.u64.wrap (dA+nM)) < dA
 ·rw [if_pos c3] at H
  have fK:=decide_eq_true c3
  clear c3
  simp only [Option.some.injEq,Prod.mk.injEq] at H
  obtain ⟨rfl,rfl⟩:=H
  go_enter Tryz.func124,Tryz.ntmps124
  go_wp2_with (first|((with_reducible refine bK (N:=2) rfl ?_);refine bT zR (N:=2) zR (cs := #[.int .u64 bJ,.int .u64 dA]) (t:=179) zG ?_;intro auK hg w4 hbox hb;obtain ⟨HB,jS,auL,auM⟩:=zA4 (ak zB hb) hbox (zg hg zB) (zg hg zB);clear hb hbox hg)|((with_reducible refine bK (N:=3) rfl ?_);refine bT zR (N:=3) zR (cs := #[.int .u64 kN,.int .u64 nM]) (t:=179) zG ?_;intro auN hg w5 hbox hb;obtain ⟨jS,HB,oL,auO,auP,aeg,aeh⟩:=zA7 (ay (zK jS) hb) (ak zB hb) hbox (zg hg zB) (zg hg zB) (zl hg (zK jS)) (zr hg (zK jS));clear hb hbox hg)|((with_reducible refine bK (N:=4) rfl ?_);refine bT zR (N:=4) zR (cs := #[.int .u64 0,.int .u64 0]) (t:=179) zG ?_;intro amV hg w6 hbox hb;obtain ⟨jS,oL,HB,uH,auQ,auR,aei,aej,aek,ael⟩:=adx (ay (zK jS) hb) (ay (zK oL) hb) (ak zB hb) hbox (zg hg zB) (zg hg zB) (zl hg (zK jS)) (zr hg (zK jS)) (zl hg (zK oL)) (zr hg (zK oL));clear hb hbox hg;have arU:=aeg.out;have arV:=aeh.out;have arW:=aei.out;have arX:=aej.out;obtain ⟨_,_⟩:=zC2 jS.out;obtain ⟨_,_⟩:=zF2 jS.out;have as9:=aek.out;have ata:=ael.out;obtain ⟨_,_⟩:=zC2 oL.out;obtain ⟨_,_⟩:=zF2 oL.out)|((with_reducible refine bK (N:=5) rfl ?_);refine bT zR (N:=5) zR (cs := #[.int .u64 0,.int .u64 0]) (t:=179) zG ?_;intro auS hg w12 hbox hb;obtain ⟨jS,oL,uH,HB,agS,auT,auU,aem,aen,aeo,aep,uf,aer⟩:=afc (ay (zK jS) hb) (ay (zK oL) hb) (ay (zK uH) hb) (ak zB hb) hbox (zg hg zB) (zg hg zB) (zl hg (zK jS)) (zr hg (zK jS)) (zl hg (zK oL)) (zr hg (zK oL)) (zl hg (zK uH)) (zr hg (zK uH));clear hb hbox hg;have alW:=aen.out;have alX:=aem.out;have ap8:=aep.out;have ap9:=aeo.out;have ate:=aer.out;have atf:=uf.out;obtain ⟨_,_⟩:=zC2 agS.out;obtain ⟨_,_⟩:=zF2 agS.out;obtain ⟨_,_⟩:=zC2 jS.out;obtain ⟨_,_⟩:=zF2 jS.out;obtain ⟨_,_⟩:=zC2 uH.out;obtain ⟨_,_⟩:=zF2 uH.out))
  refine bodyPost_ret (results_cell_row rfl _ _ amV 179 #[.int .u64 (IntKind.u64.wrap ((IntKind.u64.wrap (bJ+kN))+1)),.int .u64 (IntKind.u64.wrap (dA+nM))] (0,0) _ rfl (by refine zD ?_;refine aY (cs := #[.int .u64 (IntKind.u64.wrap ((IntKind.u64.wrap (bJ+kN))+1)),.int .u64 0]) ?_ 1 _ rfl;refine zD ?_;refine aY (cs := #[.int .u64 0,.int .u64 0]) ?_ 0 _ rfl;refine zD ?_;refine iF ?_ uf.out _;refine zD ?_;refine iF ?_ uf.out _;refine zD ?_;refine iF ?_ uf.out _;refine zD ?_;exact uH.out) Tryz.underlying179 rfl (by kernel_rfl)) rfl ?_
  exact ⟨zS,zB⟩
 ·rw [if_neg c3] at H
  have fK:=decide_eq_false c3
  clear c3
  simp only [Option.some.injEq,Prod.mk.injEq] at H
  obtain ⟨rfl,rfl⟩:=H
  go_enter Tryz.func124,Tryz.ntmps124
  go_wp2_with (first|((with_reducible refine bK (N:=2) rfl ?_);refine bT zR (N:=2) zR (cs := #[.int .u64 bJ,.int .u64 dA]) (t:=179) zG ?_;intro auK hg w19 hbox hb;obtain ⟨HB,jS,auL,auM⟩:=zA4 (ak zB hb) hbox (zg hg zB) (zg hg zB);clear hb hbox hg)|((with_reducible refine bK (N:=3) rfl ?_);refine bT zR (N:=3) zR (cs := #[.int .u64 kN,.int .u64 nM]) (t:=179) zG ?_;intro auN hg w20 hbox hb;obtain ⟨jS,HB,oL,auO,auP,aeg,aeh⟩:=zA7 (ay (zK jS) hb) (ak zB hb) hbox (zg hg zB) (zg hg zB) (zl hg (zK jS)) (zr hg (zK jS));clear hb hbox hg)|((with_reducible refine bK (N:=4) rfl ?_);refine bT zR (N:=4) zR (cs := #[.int .u64 0,.int .u64 0]) (t:=179) zG ?_;intro amV hg w21 hbox hb;obtain ⟨jS,oL,HB,uH,auQ,auR,aei,aej,aek,ael⟩:=adx (ay (zK jS) hb) (ay (zK oL) hb) (ak zB hb) hbox (zg hg zB) (zg hg zB) (zl hg (zK jS)) (zr hg (zK jS)) (zl hg (zK oL)) (zr hg (zK oL));clear hb hbox hg;have aqd:=aeg.out;have aqe:=aeh.out;have alY:=aei.out;have alZ:=aej.out;obtain ⟨_,_⟩:=zC2 jS.out;obtain ⟨_,_⟩:=zF2 jS.out;have aty:=aek.out;have atz:=ael.out;obtain ⟨_,_⟩:=zC2 oL.out;obtain ⟨_,_⟩:=zF2 oL.out)|((with_reducible refine bK (N:=5) rfl ?_);refine bT zR (N:=5) zR (cs := #[.int .u64 0,.int .u64 0]) (t:=179) zG ?_;intro auS hg w27 hbox hb;obtain ⟨jS,oL,uH,HB,agS,auT,auU,aem,aen,aeo,aep,uf,aer⟩:=afc (ay (zK jS) hb) (ay (zK oL) hb) (ay (zK uH) hb) (ak zB hb) hbox (zg hg zB) (zg hg zB) (zl hg (zK jS)) (zr hg (zK jS)) (zl hg (zK oL)) (zr hg (zK oL)) (zl hg (zK uH)) (zr hg (zK uH));clear hb hbox hg;have atP:=aen.out;have atQ:=aem.out;have al0:=aep.out;have al2:=aeo.out;have aqa:=aer.out;have aqb:=uf.out;obtain ⟨_,_⟩:=zC2 agS.out;obtain ⟨_,_⟩:=zF2 agS.out;obtain ⟨_,_⟩:=zC2 jS.out;obtain ⟨_,_⟩:=zF2 jS.out;obtain ⟨_,_⟩:=zC2 uH.out;obtain ⟨_,_⟩:=zF2 uH.out))
  refine bodyPost_ret (results_cell_row rfl _ _ amV 179 #[.int .u64 (IntKind.u64.wrap (bJ+kN)),.int .u64 (IntKind.u64.wrap (dA+nM))] (0,0) _ rfl (by refine zD ?_;refine aY (cs := #[.int .u64 (IntKind.u64.wrap (bJ+kN)),.int .u64 0]) ?_ 1 _ rfl;refine zD ?_;refine aY (cs := #[.int .u64 0,.int .u64 0]) ?_ 0 _ rfl;refine zD ?_;refine iF ?_ uf.out _;refine zD ?_;refine iF ?_ uf.out _;refine zD ?_;exact uH.out) Tryz.underlying179 rfl (by kernel_rfl)) rfl ?_
  exact ⟨zS,zB⟩
end Go.Proofs.YtpondkggmcmpfaaGreatDoor.QA
namespace Go.Proofs.YtpondkggmcmpfaaGreatDoor.QA
open Go.Proofs.YtpondkggmcmpfaaGreatDoor.T
open Go.RowKit Go.Proofs.YtpondkggmcmpfaaGreatDoorW.PrintWords Go.Proofs.YtpondkggmcmpfaaGreatDoorW.PrintLast Go.Proofs.YtpondkggmcmpfaaGreatDoorW.PrintMore
attribute [local go_sem] eP dV dW fM fO
set_option linter.unusedVariables false
set_option linter.unusedSimpArgs false
def dP.l0:Nat→Int→Int→Int→Int→Int→Option (Int × Int)
 | 0,_,_,_,_,_=>none
 | k+1,x0,x1,x6,alh,ali=>if x6≥0 then ((dH.f alh ali 0).bind fun aiZ=>(if 0≤x6 then (if (Go.bits .and .u64 (shr .u64 x1 x6) 1)=1 then ((gG.f aiZ.1 aiZ.2 0 x0).bind fun agT=>(dP.l0 k x0 x1 (wrap64 (x6 - 1)) agT.1 agT.2)) else (dP.l0 k x0 x1 (wrap64 (x6 - 1)) aiZ.1 aiZ.2)) else (none))) else (some (alh,ali))
def dP.f (k:Nat) (a0 a1:Int):Option (Int × Int):=dP.l0 k a0 a1 63 0 0
set_option maxHeartbeats 8000000 in
set_option maxRecDepth 100000 in
theorem dP.calls (k:Nat) (a0 a1 r1 r2:Int) (w:World) (h:dP.f k a0 a1=some (r1,r2)) :
  Calls Tryz.prog 148 #[.int .u64 a0,.int .u64 a1] w fun e w'=>e = .returned (.agg #[.int .u64 r1,.int .u64 r2])∧Below w.heap.size w w':=by
 have xq:=Tryz.underlying179
 have HB:=aj.mk (Below.refl w.heap.size w)
 have H:=h
 clear h
 unfold dP.f at H
 have H':=aj.mk H
 clear H
 go_enter Tryz.func148,Tryz.ntmps148
 go_wp2_with (first|((with_reducible refine bK (N:=4) rfl ?_);refine bT zR (N:=4) zR (cs := #[.int .u64 0,.int .u64 0]) (t:=179) zG ?_;intro aqE hg w3 hbox hb;obtain ⟨HB,rJ,aAd,aAe⟩:=zA4 (ak zB hb) hbox (zg hg zB) (zg hg zB);clear hb hbox hg)|((with_reducible refine bK (N:=5) rfl ?_);refine bT zR (N:=5) zR (cs := #[.int .u64 0,.int .u64 0]) (t:=179) zG ?_;intro aqF hg w4 hbox hb;obtain ⟨rJ,HB,nI,aAf,aAg,abV,abW⟩:=zA7 (ay (zK rJ) hb) (ak zB hb) hbox (zg hg zB) (zg hg zB) (zl hg (zK rJ)) (zr hg (zK rJ));clear hb hbox hg;have avV:=abW.out;have avW:=abV.out;obtain ⟨_,_⟩:=zC2 nI.out;obtain ⟨_,_⟩:=zF2 nI.out))
 go_loopg [6] k (fun kq v6 w'=>∃ (o7:Int) (o8:Int) (nZ:Int),v6 = .int .i64 o7∧aj (dP.l0 kq a0 a1 o7 o8 nZ=some (r1,r2))∧aj (kq≤k)∧aj (w'.heap[aqE]? = some (.cells #[.int .u64 0,.int .u64 0] 179 (0,0)))∧aj (w'.heap[aqF]? = some (.cells #[.int .u64 o8,.int .u64 nZ] 179 (0,0)))∧aj (Below w.heap.size w w'))
 case atStart=>exact ⟨(63),(0),(0),zT,H',⟨Nat.le_refl _⟩,⟨zK rJ⟩,⟨by refine zD ?_;refine aY (cs := #[.int .u64 0,.int .u64 0]) ?_ 1 _ rfl;refine zD ?_;refine aY (cs := #[.int .u64 0,.int .u64 0]) ?_ 0 _ rfl;refine zD ?_;exact nI.out⟩,⟨zB⟩⟩
 case round =>
  clear H'
  obtain ⟨o7,o8,nZ,rfl,HA,HK1,rJ,nI,HB⟩:=hrel
  cases gk with
  | zero=>exact absurd HA.out (by simp [dP.l0])
  | succ k1 =>
   have H:=HA.out
   clear HA
   simp only [dP.l0] at H
   by_cases c7:o7≥0
   ·rw [if_pos c7] at H
    have jq:=decide_eq_true c7
    clear c7
    replace H:=zO H
    obtain ⟨⟨abu,ace⟩,A8,H⟩:=H
    try dsimp only at H
    by_cases c9:0≤o7
    ·rw [if_pos c9] at H
     have qH:=eq_true c9
     have afg:=decide_eq_true c9
     clear c9
     obtain ⟨dD,jI⟩:∃ j_:Int,(shr .u64 a1 o7)=j_:=⟨_,rfl⟩
     replace H:(if (Go.bits .and .u64 (dD) 1)=1 then ((gG.f abu ace 0 a0).bind fun agT=>(dP.l0 k1 a0 a1 (wrap64 (o7 - 1)) agT.1 agT.2)) else (dP.l0 k1 a0 a1 (wrap64 (o7 - 1)) abu ace))=some (r1,r2):=by first|(rw [jI] at H;exact H)|(simp only [jI] at H ⊢;exact H)
     (try rw [jI] at A8)
     have ake:(a1 / 2 ^ min o7.toNat 64)=dD:=jI
     have anE:o7≤64→(a1 / 2 ^ o7.toNat)=dD:=oM jI
     by_cases c11:(Go.bits .and .u64 (dD) 1)=1
     ·rw [if_pos c11] at H
      have iL:((Go.bits .and .u64 (dD) 1) == 1)=true:=beq_iff_eq.mpr c11
      have yD:((Go.bits .and .u64 (dD) 1) != 1)=false:=bne_eq_false_iff_eq.mpr c11
      clear c11
      replace H:=zO H
      obtain ⟨⟨apN,asK⟩,A12,H⟩:=H
      try dsimp only at H
      have H':=aj.mk H
      clear H
      have alW:=abW.out
      have alX:=abV.out
      obtain ⟨_,_⟩:=zC2 nI.out
      obtain ⟨_,_⟩:=zF2 nI.out
      go_wp2_with (first|((with_reducible refine aA (f:=119) rfl ?_);refine aH (some 13) rfl rfl Tryz.func119 (by kernel_rfl) rfl #[.agg #[.int .u64 o8,.int .u64 nZ],.int .u64 0] rfl zL ?_;(with_reducible refine (dH.calls o8 nZ 0 abu ace _ A8.out).mono ?_);rintro e w15 ⟨rfl,hb⟩;refine ⟨_,rfl,?_⟩;obtain ⟨rJ,nI,HB⟩:=zA3 (ay (zK rJ) hb) (ay (zK nI) hb) (ak zB hb);(try clear hb);obtain ⟨_,_⟩:=zC2 nI.out;obtain ⟨_,_⟩:=zF2 nI.out)|((with_reducible refine aA (f:=124) rfl ?_);refine aH (some 22) rfl rfl Tryz.func124 (by kernel_rfl) rfl #[.agg #[.int .u64 abu,.int .u64 ace],.agg #[.int .u64 0,.int .u64 a0]] rfl zL ?_;(with_reducible refine (gG.calls abu ace 0 a0 apN asK _ A12.out).mono ?_);rintro e w17 ⟨rfl,hb⟩;refine ⟨_,rfl,?_⟩;obtain ⟨rJ,nI,HB⟩:=zA3 (ay (zK rJ) hb) (ay (g:=aqF) (o := .cells #[.int .u64 abu,.int .u64 ace] 179 (0,0)) (by refine zD ?_;refine aY (cs := #[.int .u64 abu,.int .u64 nZ]) ?_ 1 _ rfl;refine zD ?_;refine aY (cs := #[.int .u64 o8,.int .u64 nZ]) ?_ 0 _ rfl;refine zD ?_;exact nI.out) hb) (ak zB hb);(try clear hb);obtain ⟨_,_⟩:=zC2 nI.out;obtain ⟨_,_⟩:=zF2 nI.out))
      go_roundg k1
      case measure=>have:=HK1.out;omega
      case rel=>exact ⟨(wrap64 (o7 - 1)),(apN),(asK),zT,H',⟨by have:=HK1.out;omega⟩,⟨zK rJ⟩,⟨by refine zD ?_;refine aY (cs := #[.int .u64 apN,.int .u64 ace]) ?_ 1 _ rfl;refine zD ?_;refine aY (cs := #[.int .u64 abu,.int .u64 ace]) ?_ 0 _ rfl;refine zD ?_;exact nI.out⟩,⟨zB⟩⟩
     ·rw [if_neg c11] at H
      have iL:((Go.bits .and .u64 (dD) 1) == 1)=false:=beq_eq_false_iff_ne.mpr c11
      have yD:((Go.bits .and .u64 (dD) 1) != 1)=true:=bne_iff_ne.mpr c11
      have H':=aj.mk H
      clear H
      have aAh:=abW.out
      have aAi:=abV.out
      obtain ⟨_,_⟩:=zC2 nI.out
      obtain ⟨_,_⟩:=zF2 nI.out
      go_wp2_with (first|((with_reducible refine aA (f:=119) rfl ?_);refine aH (some 13) rfl rfl Tryz.func119 (by kernel_rfl) rfl #[.agg #[.int .u64 o8,.int .u64 nZ],.int .u64 0] rfl zL ?_;(with_reducible refine (dH.calls o8 nZ 0 abu ace _ A8.out).mono ?_);rintro e w21 ⟨rfl,hb⟩;refine ⟨_,rfl,?_⟩;obtain ⟨rJ,nI,HB⟩:=zA3 (ay (zK rJ) hb) (ay (zK nI) hb) (ak zB hb);(try clear hb);obtain ⟨_,_⟩:=zC2 nI.out;obtain ⟨_,_⟩:=zF2 nI.out))
      go_roundg k1
      case measure=>have:=HK1.out;omega
      case rel=>exact ⟨(wrap64 (o7 - 1)),(abu),(ace),zT,H',⟨by have:=HK1.out;omega⟩,⟨zK rJ⟩,⟨by refine zD ?_;refine aY (cs := #[.int .u64 abu,.int .u64 nZ]) ?_ 1 _ rfl;refine zD ?_;refine aY (cs := #[.int .u64 o8,.int .u64 nZ]) ?_ 0 _ rfl;refine zD ?_;exact nI.out⟩,⟨zB⟩⟩
    ·rw [if_neg c9] at H
     exact absurd H (by simp)
   ·rw [if_neg c7] at H
    have jq:=decide_eq_false c7
    clear c7
    simp only [Option.some.injEq,Prod.mk.injEq] at H
    obtain ⟨rfl,rfl⟩:=H
    have alY:=abW.out
    have alZ:=abV.out
    obtain ⟨_,_⟩:=zC2 nI.out
    obtain ⟨_,_⟩:=zF2 nI.out
    obtain ⟨_,_⟩:=zC2 rJ.out
    obtain ⟨_,_⟩:=zF2 rJ.out
    go_wp2
    refine bodyPost_ret (results_cell_row rfl _ _ aqE 179 #[.int .u64 o8,.int .u64 nZ] (0,0) _ rfl (by refine zD ?_;refine aY (cs := #[.int .u64 o8,.int .u64 0]) ?_ 1 _ rfl;refine zD ?_;refine aY (cs := #[.int .u64 0,.int .u64 0]) ?_ 0 _ rfl;refine zD ?_;exact rJ.out) Tryz.underlying179 rfl (by kernel_rfl)) rfl ?_
    exact ⟨zS,zB⟩
def gX.f (bJ dA kN nM:Int):Option (Bool):=if bJ=kN then (some (decide (dA < nM))) else (some (decide (bJ < kN)))
set_option maxHeartbeats 8000000 in
set_option maxRecDepth 100000 in
theorem gX.calls (bJ dA kN nM:Int) (r:Bool) (w:World) (h:gX.f bJ dA kN nM=some r) :
  Calls Tryz.prog 123 #[.agg #[.int .u64 bJ,.int .u64 dA],.agg #[.int .u64 kN,.int .u64 nM]] w fun e w'=>e = .returned (.bool r)∧Below w.heap.size w w':=by
 have xq:=Tryz.underlying179
 have HB:=aj.mk (Below.refl w.heap.size w)
 have H:=h
 clear h
 unfold gX.f at H
 by_cases c3:bJ=kN
 ·rw [if_pos c3] at H
  have fK:(bJ == kN)=true:=beq_iff_eq.mpr c3
  have wJ:(bJ != kN)=false:=bne_eq_false_iff_eq.mpr c3
  clear c3
  obtain rfl:=Option.some.inj H
  go_enter Tryz.func123,Tryz.ntmps123
  go_wp2_with (first|((with_reducible refine bK (N:=2) rfl ?_);refine bT zR (N:=2) zR (cs := #[.int .u64 bJ,.int .u64 dA]) (t:=179) zG ?_;intro auV hg w4 hbox hb;obtain ⟨HB,wG,auW,auX⟩:=zA4 (ak zB hb) hbox (zg hg zB) (zg hg zB);clear hb hbox hg)|((with_reducible refine bK (N:=3) rfl ?_);refine bT zR (N:=3) zR (cs := #[.int .u64 kN,.int .u64 nM]) (t:=179) zG ?_;intro auY hg w5 hbox hb;obtain ⟨wG,HB,agU,auZ,au0,aes,aeu⟩:=zA7 (ay (zK wG) hb) (ak zB hb) hbox (zg hg zB) (zg hg zB) (zl hg (zK wG)) (zr hg (zK wG));clear hb hbox hg;have aAV:=aes.out;have aAW:=aeu.out;obtain ⟨_,_⟩:=zC2 wG.out;obtain ⟨_,_⟩:=zF2 wG.out;obtain ⟨_,_⟩:=zC2 agU.out;obtain ⟨_,_⟩:=zF2 agU.out))
  go_ret
  exact ⟨zS,zB⟩
 ·rw [if_neg c3] at H
  have fK:(bJ == kN)=false:=beq_eq_false_iff_ne.mpr c3
  have wJ:(bJ != kN)=true:=bne_iff_ne.mpr c3
  obtain rfl:=Option.some.inj H
  go_enter Tryz.func123,Tryz.ntmps123
  go_wp2_with (first|((with_reducible refine bK (N:=2) rfl ?_);refine bT zR (N:=2) zR (cs := #[.int .u64 bJ,.int .u64 dA]) (t:=179) zG ?_;intro auV hg w9 hbox hb;obtain ⟨HB,wG,auW,auX⟩:=zA4 (ak zB hb) hbox (zg hg zB) (zg hg zB);clear hb hbox hg)|((with_reducible refine bK (N:=3) rfl ?_);refine bT zR (N:=3) zR (cs := #[.int .u64 kN,.int .u64 nM]) (t:=179) zG ?_;intro auY hg w10 hbox hb;obtain ⟨wG,HB,agU,auZ,au0,aes,aeu⟩:=zA7 (ay (zK wG) hb) (ak zB hb) hbox (zg hg zB) (zg hg zB) (zl hg (zK wG)) (zr hg (zK wG));clear hb hbox hg;have atr:=aes.out;have att:=aeu.out;obtain ⟨_,_⟩:=zC2 wG.out;obtain ⟨_,_⟩:=zF2 wG.out;obtain ⟨_,_⟩:=zC2 agU.out;obtain ⟨_,_⟩:=zF2 agU.out))
  go_ret
  exact ⟨zS,zB⟩
def bM.j0:Nat→Bool→Int→Int→Option (Int)
 | 0,_,_,_=>none
 | k+1,x13,axp,arp=>if x13=true then (some (-9223372036854775808)) else (some (wrap64 (-(wrap64 (arp)))))
def bM.f (k:Nat) (bJ dA:Int) (a1:Bool):Option (Int):=if a1=true then (if bJ > 0 then (bM.j0 k true bJ dA) else (bM.j0 k (decide (dA > 9223372036854775807)) bJ dA)) else (if bJ > 0 then (some 9223372036854775807) else (if dA > 9223372036854775807 then (some 9223372036854775807) else (some (wrap64 (dA)))))
set_option maxHeartbeats 8000000 in
set_option maxRecDepth 100000 in
theorem bM.calls (k:Nat) (bJ dA:Int) (a1:Bool) (r:Int) (w:World) (h:bM.f k bJ dA a1=some r) :
  Calls Tryz.prog 125 #[.agg #[.int .u64 bJ,.int .u64 dA],.bool a1] w fun e w'=>e = .returned (.int .i64 r)∧Below w.heap.size w w':=by
 have xq:=Tryz.underlying179
 have HB:=aj.mk (Below.refl w.heap.size w)
 have H:=h
 clear h
 unfold bM.f at H
 by_cases c3:a1=true
 ·subst c3
  rw [if_pos rfl] at H;try dsimp only at H
  have HC4:=aj.mk H
  clear H
  go_enter Tryz.func125,Tryz.ntmps125
  go_upto_region 2 with (first|((with_reducible refine bK (N:=2) rfl ?_);refine bT zR (N:=2) zR (cs := #[.int .u64 bJ,.int .u64 dA]) (t:=179) zG ?_;intro ai0 hg w5 hbox hb;obtain ⟨HB,qG,amW,amX⟩:=zA4 (ak zB hb) hbox (zg hg zB) (zg hg zB);clear hb hbox hg))
  (try simp only [Act.put,List.setIfInBounds_toArray,List.set_cons_zero,List.set_cons_succ])
  go_cut [13] (fun v13 wc=>∃ (kq:Nat) (ai1:Bool),v13 = .bool ai1∧aj (bM.j0 kq ai1 bJ dA=some r)∧aj (kq≤k)∧aj (wc.heap[ai0]? = some (.cells #[.int .u64 bJ,.int .u64 dA] 179 (0,0)))∧aj (Below w.heap.size w wc))
  case first =>
   have H:=HC4.out
   clear HC4
   by_cases c6:bJ > 0
   ·rw [if_pos c6] at H
    have ig:=decide_eq_true c6
    clear c6
    (first|rw [ig]|(simp only [bW,dh];rw [ig])|skip)
    have H':=aj.mk H
    clear H
    obtain ⟨_,_⟩:=zC2 qG.out
    obtain ⟨_,_⟩:=zF2 qG.out
    go_wp2
    go_meet
    case rel=>exact ⟨_,(true),zT,H',⟨by first|omega|exact Nat.le_refl _⟩,⟨zK qG⟩,⟨zB⟩⟩
   ·rw [if_neg c6] at H
    have ig:=decide_eq_false c6
    clear c6
    (first|rw [ig]|(simp only [bW,dh];rw [ig])|skip)
    have H':=aj.mk H
    clear H
    obtain ⟨_,_⟩:=zC2 qG.out
    obtain ⟨_,_⟩:=zF2 qG.out
    go_wp2
    go_meet
    case rel=>exact ⟨_,(decide (dA > 9223372036854775807)),zT,H',⟨by first|omega|exact Nat.le_refl _⟩,⟨zK qG⟩,⟨zB⟩⟩
  case rest =>
   clear HC4
   obtain ⟨kq,ai1,rfl,HA,HJ3,qG,HB⟩:=hcut
   cases kq with
   | zero=>exact absurd HA.out (by simp [bM.j0])
   | succ kj3 =>
    have H:=HA.out
    clear HA
    simp only [bM.j0] at H
    by_cases c9:ai1=true
    ·subst c9
     rw [if_pos rfl] at H;try dsimp only at H
     obtain rfl:=Option.some.inj H
     go_wp2
     go_ret
     exact ⟨zS,zB⟩
    ·replace c9:=Bool.eq_false_iff.mpr c9
     subst c9
     rw [if_neg (show ¬ (false=true) by decide)] at H;try dsimp only at H
     obtain rfl:=Option.some.inj H
     obtain ⟨_,_⟩:=zC2 qG.out
     obtain ⟨_,_⟩:=zF2 qG.out
     go_wp2
     go_ret
     exact ⟨zS,zB⟩
 ·replace c3:=Bool.eq_false_iff.mpr c3
  subst c3
  rw [if_neg (show ¬ (false=true) by decide)] at H;try dsimp only at H
  by_cases c11:bJ > 0
  ·rw [if_pos c11] at H
   have iL:=decide_eq_true c11
   clear c11
   obtain rfl:=Option.some.inj H
   go_enter Tryz.func125,Tryz.ntmps125
   go_wp2_with (first|((with_reducible refine bK (N:=2) rfl ?_);refine bT zR (N:=2) zR (cs := #[.int .u64 bJ,.int .u64 dA]) (t:=179) zG ?_;intro ai0 hg w12 hbox hb;obtain ⟨HB,qG,amW,amX⟩:=zA4 (ak zB hb) hbox (zg hg zB) (zg hg zB);clear hb hbox hg;obtain ⟨_,_⟩:=zC2 qG.out;obtain ⟨_,_⟩:=zF2 qG.out))
   go_ret
   exact ⟨zS,zB⟩
  ·rw [if_neg c11] at H
   have iL:=decide_eq_false c11
   clear c11
   by_cases c14:dA > 9223372036854775807
   ·rw [if_pos c14] at H
    have abN:=decide_eq_true c14
    clear c14
    obtain rfl:=Option.some.inj H
    go_enter Tryz.func125,Tryz.ntmps125
    go_wp2_with (first|((with_reducible refine bK (N:=2) rfl ?_);refine bT zR (N:=2) zR (cs := #[.int .u64 bJ,.int .u64 dA]) (t:=179) zG ?_;intro ai0 hg w15 hbox hb;obtain ⟨HB,qG,amW,amX⟩:=zA4 (ak zB hb) hbox (zg hg zB) (zg hg zB);clear hb hbox hg;obtain ⟨_,_⟩:=zC2 qG.out;obtain ⟨_,_⟩:=zF2 qG.out))
    go_ret
    exact ⟨zS,zB⟩
   ·rw [if_neg c14] at H
    have abN:=decide_eq_false c14
    clear c14
    obtain rfl:=Option.some.inj H
    go_enter Tryz.func125,Tryz.ntmps125
    go_wp2_with (first|((with_reducible refine bK (N:=2) rfl ?_);refine bT zR (N:=2) zR (cs := #[.int .u64 bJ,.int .u64 dA]) (t:=179) zG ?_;intro ai0 hg w17 hbox hb;obtain ⟨HB,qG,amW,amX⟩:=zA4 (ak zB hb) hbox (zg hg zB) (zg hg zB);clear hb hbox hg;obtain ⟨_,_⟩:=zC2 qG.out;obtain ⟨_,_⟩:=zF2 qG.out))
    go_ret
    exact ⟨zS,zB⟩
def fB.f (bJ dA a1:Int):Option (Int):=if a1≥64 then (if 0≤(wrap64 (a1 - 64)) then (some (Go.bits .and .u64 (shr .u64 bJ (wrap64 (a1 - 64))) 1)) else (none)) else (if 0≤a1 then (some (Go.bits .and .u64 (shr .u64 dA a1) 1)) else (none))
set_option maxHeartbeats 8000000 in
set_option maxRecDepth 100000 in
theorem fB.calls (bJ dA a1 r:Int) (w:World) (h:fB.f bJ dA a1=some r) :
  Calls Tryz.prog 121 #[.agg #[.int .u64 bJ,.int .u64 dA],.int .i64 a1] w fun e w'=>e = .returned (.int .u64 r)∧Below w.heap.size w w':=by
 have xq:=Tryz.underlying179
 have HB:=aj.mk (Below.refl w.heap.size w)
 have H:=h
 clear h
 unfold fB.f at H
 by_cases c3:a1≥64
 ·rw [if_pos c3] at H
  have fK:=decide_eq_true c3
  clear c3
  obtain ⟨ji4,xJ⟩:∃ j_:Int,(wrap64 (a1 - 64))=j_:=⟨_,rfl⟩
  replace H:(if 0≤(ji4) then (some (Go.bits .and .u64 (shr .u64 bJ (ji4)) 1)) else (none))=some r:=by first|(rw [xJ] at H;exact H)|(simp only [xJ] at H ⊢;exact H)
  have aAj:(IntKind.i64.wrap (a1 - 64))=ji4:=(bW _).trans xJ
  by_cases c5:0≤(ji4)
  ·rw [if_pos c5] at H
   have iJ:=eq_true c5
   have abq:=decide_eq_true c5
   clear c5
   obtain ⟨ji6,wP⟩:∃ j_:Int,(shr .u64 bJ (ji4))=j_:=⟨_,rfl⟩
   replace H:(some (Go.bits .and .u64 (ji6) 1))=some r:=by first|(rw [wP] at H;exact H)|(simp only [wP] at H ⊢;exact H)
   have auu:(bJ / 2 ^ min (ji4).toNat 64)=ji6:=wP
   have auv:(ji4)≤64→(bJ / 2 ^ (ji4).toNat)=ji6:=oM wP
   obtain rfl:=Option.some.inj H
   go_enter Tryz.func121,Tryz.ntmps121
   go_wp2_with (first|((with_reducible refine bK (N:=2) rfl ?_);refine bT zR (N:=2) zR (cs := #[.int .u64 bJ,.int .u64 dA]) (t:=179) zG ?_;intro au1 hg w7 hbox hb;obtain ⟨HB,agV,au2,au3⟩:=zA4 (ak zB hb) hbox (zg hg zB) (zg hg zB);clear hb hbox hg;obtain ⟨_,_⟩:=zC2 agV.out;obtain ⟨_,_⟩:=zF2 agV.out))
   go_ret
   exact ⟨by first|rfl|(simp [bG,bH] <;> rfl)|(simp only [← xJ,← wP];first|rfl|(simp [bG,bH] <;> rfl))|(simp [*,bG,bH] <;> rfl),zB⟩
  ·rw [if_neg c5] at H
   exact absurd H (by simp)
 ·rw [if_neg c3] at H
  have fK:=decide_eq_false c3
  clear c3
  by_cases c9:0≤a1
  ·rw [if_pos c9] at H
   have qH:=eq_true c9
   have afg:=decide_eq_true c9
   clear c9
   obtain ⟨dD,jI⟩:∃ j_:Int,(shr .u64 dA a1)=j_:=⟨_,rfl⟩
   replace H:(some (Go.bits .and .u64 (dD) 1))=some r:=by first|(rw [jI] at H;exact H)|(simp only [jI] at H ⊢;exact H)
   have ake:(dA / 2 ^ min a1.toNat 64)=dD:=jI
   have anE:a1≤64→(dA / 2 ^ a1.toNat)=dD:=oM jI
   obtain rfl:=Option.some.inj H
   go_enter Tryz.func121,Tryz.ntmps121
   go_wp2_with (first|((with_reducible refine bK (N:=2) rfl ?_);refine bT zR (N:=2) zR (cs := #[.int .u64 bJ,.int .u64 dA]) (t:=179) zG ?_;intro au1 hg w11 hbox hb;obtain ⟨HB,agV,au2,au3⟩:=zA4 (ak zB hb) hbox (zg hg zB) (zg hg zB);clear hb hbox hg;obtain ⟨_,_⟩:=zC2 agV.out;obtain ⟨_,_⟩:=zF2 agV.out))
   go_ret
   exact ⟨by first|rfl|(simp [bG,bH] <;> rfl)|(simp only [← jI];first|rfl|(simp [bG,bH] <;> rfl))|(simp [*,bG,bH] <;> rfl),zB⟩
  ·rw [if_neg c9] at H
   exact absurd H (by simp)
end Go.Proofs.YtpondkggmcmpfaaGreatDoor.QA
