/- Joined by wip/tools/bundle.py out of: QAx9 QAx10 QAx14 QAx15 QAx16 QAx21 QAx22. -/
import Derived.Test.YtpondkggmcmpfaaGreatDoorBOpAll0
import Derived.Test.YtpondkggmcmpfaaGreatDoorBOpAll1
import Derived.Test.YtpondkggmcmpfaaGreatDoorBOpAll2
namespace Go.Proofs.YtpondkggmcmpfaaGreatDoor.QA
open Go.Proofs.YtpondkggmcmpfaaGreatDoor.T
open Go.RowKit Go.Proofs.YtpondkggmcmpfaaGreatDoorW.PrintWords Go.Proofs.YtpondkggmcmpfaaGreatDoorW.PrintLast Go.Proofs.YtpondkggmcmpfaaGreatDoorW.PrintMore
attribute [local go_sem] dZ dS dU fK fM
set_option linter.unusedVariables false
set_option linter.unusedSimpArgs false
def dh.j0:Nat→Bool→Int→Int→Bool→Option (Int)
 | 0,_,_,_,_=>none
 | k+1,x9,x10,x11,x59=>if x59=true then ((cO.f k x10 x11 x9).bind fun apO=>(some apO)) else ((cO.f k (IntKind.u64.wrap (x10+(pq x11 1 0))) (o9 x11 1 0) x9).bind fun apP=>(some apP))
def dh.f (k:Nat) (a0 a1 a2:Int):Option (Int):=if (mx 0 a2)≥128 then (some 0) else ((ku.f a0 a1).bind fun l9=>(if (mx 0 a2)=0 then ((cO.f k l9.1 l9.2.1 l9.2.2).bind fun aky=>(some aky)) else ((nY.f l9.1 l9.2.1 (mx 0 a2)).bind fun wO=>((nY.f l9.1 l9.2.1 (wrap64 ((mx 0 a2) - 1))).bind fun am0=>(if (Go.bits .and .u64 am0.2 1)=0 then (dh.j0 k l9.2.2 wO.1 wO.2 true) else (if l9.2.2=true then ((rG.f l9.1 l9.2.1 (wrap64 ((mx 0 a2) - 1))).bind fun ahT=>(dh.j0 k l9.2.2 wO.1 wO.2 ahT)) else (dh.j0 k l9.2.2 wO.1 wO.2 false)))))))
theorem dh.iU:∀ k,(∀ y0 y1 y2 y3,LeO (dh.j0 k y0 y1 y2 y3) (dh.j0 (k+1) y0 y1 y2 y3))
 | 0=>fun _ _ _ _ r h=>by simp [dh.j0] at h
 | k+1=>by
  have ih0:=dh.iU k
  ·intro y0 y1 y2 y3
   unfold dh.j0
   repeat' (with_reducible first|exact ih0 _ _ _ _|exact cO.mono _ _ _ _|exact zM|refine LeO.ite ?_ ?_|refine LeO.bind ?_ (fun _ => ?_))
theorem dh.mono:∀ a0 a1 a2 k,LeO (dh.f k a0 a1 a2) (dh.f (k+1) a0 a1 a2):=by
 intro a0 a1 a2 k
 have ih0:=dh.iU k
 unfold dh.f
 repeat' (with_reducible first|exact ih0 _ _ _ _|exact cO.mono _ _ _ _|exact zM|refine LeO.ite ?_ ?_|refine LeO.bind ?_ (fun _ => ?_))
set_option maxHeartbeats 8000000 in
set_option maxRecDepth 100000 in
theorem dh.calls (k:Nat) (a0 a1 a2 r:Int) (w:World) (h:dh.f k a0 a1 a2=some r) :
  Calls Tryz.prog 176 #[.int .i64 a0,.int .i64 a1,.int .i64 a2] w fun e w'=>e = .returned (.int .i64 r)∧Below w.heap.size w w':=by
 have HB:=aj.mk (Below.refl w.heap.size w)
 have H:=h
 clear h
 unfold dh.f at H
 obtain ⟨ji4,xO⟩:∃ j_:Int,(mx 0 a2)=j_:=⟨_,rfl⟩
 replace H:(if (ji4)≥128 then (some 0) else ((ku.f a0 a1).bind fun l9=>(if (ji4)=0 then ((cO.f k l9.1 l9.2.1 l9.2.2).bind fun aky=>(some aky)) else ((nY.f l9.1 l9.2.1 (ji4)).bind fun wO=>((nY.f l9.1 l9.2.1 (wrap64 ((ji4) - 1))).bind fun am0=>(if (Go.bits .and .u64 am0.2 1)=0 then (dh.j0 k l9.2.2 wO.1 wO.2 true) else (if l9.2.2=true then ((rG.f l9.1 l9.2.1 (wrap64 ((ji4) - 1))).bind fun ahT=>(dh.j0 k l9.2.2 wO.1 wO.2 ahT)) else (dh.j0 k l9.2.2 wO.1 wO.2 false))))))))=some r:=by first|(rw [xO] at H;exact H)|(simp only [xO] at H ⊢;exact H)
 (try (have aqM:0≤ji4:=by (rw [← xO];unfold mx;(repeat' split) <;> omega)))
 (try (have aAq:0≤ji4:=by omega))
 have aAr:(if 0 < a2 then a2 else 0)=ji4:=xO
 by_cases c5:(ji4)≥128
 ·rw [if_pos c5] at H
  have iw:=decide_eq_true c5
  clear c5
  obtain rfl:=Option.some.inj H
  go_enter Tryz.func176,Tryz.ntmps176
  go_wp2
  go_ret
  exact ⟨by first|rfl|(simp [bK,bM] <;> rfl)|(simp only [← xO];first|rfl|(simp [bK,bM] <;> rfl))|(simp [*,bK,bM] <;> rfl),zB⟩
 ·rw [if_neg c5] at H
  have iw:=decide_eq_false c5
  clear c5
  replace H:=zO H
  obtain ⟨⟨t141,adf,t143⟩,A6,H⟩:=H
  try dsimp only at H
  by_cases c7:(ji4)=0
  ·rw [if_pos c7] at H
   have jc:((ji4) == 0)=true:=beq_iff_eq.mpr c7
   have abb:((ji4) != 0)=false:=bne_eq_false_iff_eq.mpr c7
   clear c7
   replace H:=zO H
   obtain ⟨aky,A8,H⟩:=H
   try dsimp only at H
   obtain rfl:=Option.some.inj H
   go_enter Tryz.func176,Tryz.ntmps176
   go_wp2_with (first|((with_reducible refine ay (f:=154) rfl ?_);refine aH (some 22) rfl rfl Tryz.func154 (by kernel_rfl) rfl #[.int .i64 a0,.int .i64 a1] rfl zL ?_;(with_reducible refine (ku.calls a0 a1 t141 adf t143 _ A6.out).mono ?_);rintro e w' ⟨rfl,⟨nd,rfl⟩⟩;refine ⟨_,rfl,?_⟩)|((with_reducible refine ay (f:=156) rfl ?_);refine aH (some 31) rfl rfl Tryz.func156 (by kernel_rfl) rfl #[.int .u64 t141,.int .u64 adf,.bool t143] rfl zL ?_;(with_reducible refine (cO.calls k t141 adf t143 aky _ A8.out).mono ?_);rintro e w' ⟨rfl,⟨nd,rfl⟩⟩;refine ⟨_,rfl,?_⟩))
   go_ret
   exact ⟨by first|rfl|(simp [bK,bM] <;> rfl)|(simp only [← xO];first|rfl|(simp [bK,bM] <;> rfl))|(simp [*,bK,bM] <;> rfl),zB⟩
  ·rw [if_neg c7] at H
   have jc:((ji4) == 0)=false:=beq_eq_false_iff_ne.mpr c7
   have abb:((ji4) != 0)=true:=bne_iff_ne.mpr c7
   replace H:=zO H
   obtain ⟨⟨t145,t146⟩,A9,H⟩:=H
   try dsimp only at H
   replace H:=zO H
   obtain ⟨⟨av8,t148⟩,A10,H⟩:=H
   try dsimp only at H
   have apQ:=aj.mk H
   clear H
   go_enter Tryz.func176,Tryz.ntmps176
   go_upto_region 9 with (first|((with_reducible refine ay (f:=154) rfl ?_);refine aH (some 22) rfl rfl Tryz.func154 (by kernel_rfl) rfl #[.int .i64 a0,.int .i64 a1] rfl zL ?_;(with_reducible refine (ku.calls a0 a1 t141 adf t143 _ A6.out).mono ?_);rintro e w' ⟨rfl,⟨nd,rfl⟩⟩;refine ⟨_,rfl,?_⟩)|((with_reducible refine ay (f:=188) rfl ?_);refine aH (some 36) rfl rfl Tryz.func188 (by kernel_rfl) rfl #[.int .u64 t141,.int .u64 adf,.int .i64 ji4] rfl (by (try simp only [List.map_toArray,List.map_cons,List.map_nil]);first|done|(simp only [xO];rfl)|(simp only [Int.tdiv_eq_ediv_of_nonneg aqM];rfl)|rfl|(simp only [List.length_drop,List.length_take];rfl)) ?_;(with_reducible refine (nY.calls t141 adf ji4 t145 t146 _ A9.out).mono ?_);rintro e w' ⟨rfl,⟨nd,rfl⟩⟩;refine ⟨_,rfl,?_⟩)|((with_reducible refine ay (f:=188) rfl ?_);refine aH (some 44) rfl rfl Tryz.func188 (by kernel_rfl) rfl #[.int .u64 t141,.int .u64 adf,.int .i64 (wrap64 ((ji4) - 1))] rfl (by (try simp only [List.map_toArray,List.map_cons,List.map_nil]);first|done|(simp only [xO];rfl)|(simp only [Int.tdiv_eq_ediv_of_nonneg aqM];rfl)|rfl|(simp only [List.length_drop,List.length_take];rfl)) ?_;(with_reducible refine (nY.calls t141 adf (wrap64 ((ji4) - 1)) av8 t148 _ A10.out).mono ?_);rintro e w' ⟨rfl,⟨nd,rfl⟩⟩;refine ⟨_,rfl,?_⟩))
   (try simp only [Act.put,List.setIfInBounds_toArray,List.set_cons_zero,List.set_cons_succ])
   go_cut [59] (fun v59 wc=>∃ (kq:Nat) (agY:Bool),v59 = .bool agY∧aj (dh.j0 kq t143 t145 t146 agY=some r)∧aj (kq≤k)∧aj (Below w.heap.size w wc))
   case first =>
    have H:=apQ.out
    clear apQ
    by_cases c12:(Go.bits .and .u64 t148 1)=0
    ·rw [if_pos c12] at H
     have aal:((Go.bits .and .u64 t148 1) == 0)=true:=beq_iff_eq.mpr c12
     have aqN:((Go.bits .and .u64 t148 1) != 0)=false:=bne_eq_false_iff_eq.mpr c12
     clear c12
     (first|rw [aal]|(simp only [bY,cZ];rw [aal])|skip)
     have H':=aj.mk H
     clear H
     go_wp2
     go_meet
     case rel=>exact ⟨_,(true),zT,H',⟨by first|omega|exact Nat.le_refl _⟩,⟨zB⟩⟩
    ·rw [if_neg c12] at H
     have aal:((Go.bits .and .u64 t148 1) == 0)=false:=beq_eq_false_iff_ne.mpr c12
     have aqN:((Go.bits .and .u64 t148 1) != 0)=true:=bne_iff_ne.mpr c12
     (first|rw [aal]|(simp only [bY,cZ];rw [aal])|skip)
     by_cases c13:t143=true
     ·subst c13
      rw [if_pos rfl] at H;try dsimp only at H
      replace H:=zO H
      obtain ⟨ahT,A14,H⟩:=H
      try dsimp only at H
      have H':=aj.mk H
      clear H
      go_wp2_with (first|(go_at_call 189;(with_reducible refine (rG.calls t141 adf (wrap64 ((ji4) - 1)) ahT _ A14.out).mono ?_);rintro e w' ⟨rfl,⟨nd,rfl⟩⟩))
      go_meet
      case rel=>exact ⟨_,(ahT),zT,H',⟨by first|omega|exact Nat.le_refl _⟩,⟨zB⟩⟩
     ·replace c13:=Bool.eq_false_iff.mpr c13
      subst c13
      rw [if_neg (show ¬ (false=true) by decide)] at H;try dsimp only at H
      have H':=aj.mk H
      clear H
      go_wp2
      go_meet
      case rel=>exact ⟨_,(false),zT,H',⟨by first|omega|exact Nat.le_refl _⟩,⟨zB⟩⟩
   case rest =>
    clear apQ
    obtain ⟨kq,agY,rfl,HA,aA9,HB⟩:=hcut
    cases kq with
    | zero=>exact absurd HA.out (by simp [dh.j0])
    | succ as3 =>
     have H:=HA.out
     clear HA
     simp only [dh.j0] at H
     by_cases c15:agY=true
     ·subst c15
      rw [if_pos rfl] at H;try dsimp only at H
      replace H:=zO H
      obtain ⟨apO,A16,H⟩:=H
      try dsimp only at H
      obtain rfl:=Option.some.inj H
      go_wp2_with (first|((with_reducible refine ay (f:=156) rfl ?_);refine aH (some 63) rfl rfl Tryz.func156 (by kernel_rfl) rfl #[.int .u64 t145,.int .u64 t146,.bool t143] rfl zL ?_;(with_reducible refine (cO.calls as3 t145 t146 t143 apO _ A16.out).mono ?_);rintro e w' ⟨rfl,⟨nd,rfl⟩⟩;refine ⟨_,rfl,?_⟩))
      go_ret
      exact ⟨by first|rfl|(simp [bK,bM] <;> rfl)|(simp only [← xO];first|rfl|(simp [bK,bM] <;> rfl))|(simp [*,bK,bM] <;> rfl),zB⟩
     ·replace c15:=Bool.eq_false_iff.mpr c15
      subst c15
      rw [if_neg (show ¬ (false=true) by decide)] at H;try dsimp only at H
      replace H:=zO H
      obtain ⟨apP,A17,H⟩:=H
      try dsimp only at H
      obtain rfl:=Option.some.inj H
      go_wp2_with (first|((with_reducible refine ay (f:=156) rfl ?_);refine aH (some 74) rfl rfl Tryz.func156 (by kernel_rfl) rfl #[.int .u64 (IntKind.u64.wrap (t145+(pq t146 1 0))),.int .u64 (o9 t146 1 0),.bool t143] rfl zL ?_;(with_reducible refine (cO.calls as3 (IntKind.u64.wrap (t145+(pq t146 1 0))) (o9 t146 1 0) t143 apP _ A17.out).mono ?_);rintro e w' ⟨rfl,⟨nd,rfl⟩⟩;refine ⟨_,rfl,?_⟩))
      go_ret
      exact ⟨by first|rfl|(simp [bK,bM] <;> rfl)|(simp only [← xO];first|rfl|(simp [bK,bM] <;> rfl))|(simp [*,bK,bM] <;> rfl),zB⟩
def dV.l0:Nat→Int→Int→Int→Int→Int→Option (Int)
 | 0,_,_,_,_,_=>none
 | k+1,x5,x6,x7,x8,x9=>if x9≤30 then ((aX.f k x7 x5 (wrap64 ((wrap64 ((wrap64 (2*x9))*(wrap64 ((wrap64 (2*x9))+1))))*1099511627776))).bind fun ahU=>(dV.l0 k x5 (wrap64 (x6+(wrap64 ((wrap64 (-x8))*ahU)))) ahU (wrap64 (-x8)) (wrap64 (x9+1)))) else (some x6)
def dV.f (k:Nat) (a0 a1:Int):Option (Int):=(rH.f a0).bind fun t152=>((aX.f k 10851744800547 t152 a1).bind fun akz=>((aX.f k akz t152 a1).bind fun t154=>(dV.l0 k t154 1099511627776 1099511627776 1 1)))
theorem dV.iU:∀ k,(∀ y0 y1 y2 y3 y4,LeO (dV.l0 k y0 y1 y2 y3 y4) (dV.l0 (k+1) y0 y1 y2 y3 y4))
 | 0=>fun _ _ _ _ _ r h=>by simp [dV.l0] at h
 | k+1=>by
  have ih0:=dV.iU k
  ·intro y0 y1 y2 y3 y4
   unfold dV.l0
   repeat' (with_reducible first|exact ih0 _ _ _ _ _|exact aX.mono _ _ _ _|exact zM|refine LeO.ite ?_ ?_|refine LeO.bind ?_ (fun _ => ?_))
theorem dV.mono:∀ a0 a1 k,LeO (dV.f k a0 a1) (dV.f (k+1) a0 a1):=by
 intro a0 a1 k
 have ih0:=dV.iU k
 unfold dV.f
 repeat' (with_reducible first|exact ih0 _ _ _ _ _|exact aX.mono _ _ _ _|exact zM|refine LeO.ite ?_ ?_|refine LeO.bind ?_ (fun _ => ?_))
set_option maxHeartbeats 8000000 in
set_option maxRecDepth 100000 in
theorem dV.calls (k:Nat) (a0 a1 r:Int) (w:World) (h:dV.f k a0 a1=some r) :
  Calls Tryz.prog 177 #[.int .i64 a0,.int .i64 a1] w fun e w'=>e = .returned (.int .i64 r)∧Below w.heap.size w w':=by
 have HB:=aj.mk (Below.refl w.heap.size w)
 have H:=h
 clear h
 unfold dV.f at H
 replace H:=zO H
 obtain ⟨t152,A3,H⟩:=H
 try dsimp only at H
 replace H:=zO H
 obtain ⟨akz,A4,H⟩:=H
 try dsimp only at H
 replace H:=zO H
 obtain ⟨t154,A5,H⟩:=H
 try dsimp only at H
 have H':=aj.mk H
 clear H
 go_enter Tryz.func177,Tryz.ntmps177
 go_wp2_with (first|((with_reducible refine ay (f:=175) rfl ?_);refine aH (some 11) rfl rfl Tryz.func175 (by kernel_rfl) rfl #[.int .i64 a0] rfl zL ?_;(with_reducible refine (rH.calls a0 t152 _ A3.out).mono ?_);rintro e w6 ⟨rfl,hb⟩;refine ⟨_,rfl,?_⟩;replace HB:=aj.mk (ak zB hb);(try clear hb))|((with_reducible refine ay (f:=130) rfl ?_);refine aH (some 14) rfl rfl Tryz.func130 (by kernel_rfl) rfl #[.int .i64 10851744800547,.int .i64 t152,.int .i64 a1] rfl zL ?_;(with_reducible refine (aX.calls k 10851744800547 t152 a1 akz _ A4.out).mono ?_);rintro e w' ⟨rfl,⟨nd,rfl⟩⟩;refine ⟨_,rfl,?_⟩)|((with_reducible refine ay (f:=130) rfl ?_);refine aH (some 17) rfl rfl Tryz.func130 (by kernel_rfl) rfl #[.int .i64 akz,.int .i64 t152,.int .i64 a1] rfl zL ?_;(with_reducible refine (aX.calls k akz t152 a1 t154 _ A5.out).mono ?_);rintro e w' ⟨rfl,⟨nd,rfl⟩⟩;refine ⟨_,rfl,?_⟩))
 go_loopg [6,7,8,9] k (fun kq v6 v7 v8 v9 w'=>∃ (pI:Int) (akA:Int) (gK:Int) (sN:Int),v6 = .int .i64 pI∧v7 = .int .i64 akA∧v8 = .int .i64 gK∧v9 = .int .i64 sN∧aj (dV.l0 kq t154 pI akA gK sN=some r)∧aj (kq≤k)∧aj (Below w.heap.size w w'))
 case atStart=>exact ⟨(1099511627776),(1099511627776),(1),(1),zT,zT,zT,zT,H',⟨Nat.le_refl _⟩,⟨zB⟩⟩
 case round =>
  clear H'
  obtain ⟨pI,akA,gK,sN,rfl,rfl,rfl,rfl,HA,HK1,HB⟩:=hrel
  cases gk with
  | zero=>exact absurd HA.out (by simp [dV.l0])
  | succ k1 =>
   have H:=HA.out
   clear HA
   simp only [dV.l0] at H
   by_cases c7:sN≤30
   ·rw [if_pos c7] at H
    have jc:=decide_eq_true c7
    clear c7
    replace H:=zO H
    obtain ⟨ahU,A8,H⟩:=H
    try dsimp only at H
    have H':=aj.mk H
    clear H
    go_wp2_with (first|((with_reducible refine ay (f:=130) rfl ?_);refine aH (some 33) rfl rfl Tryz.func130 (by kernel_rfl) rfl #[.int .i64 akA,.int .i64 t154,.int .i64 (wrap64 ((wrap64 ((wrap64 (2*sN))*(wrap64 ((wrap64 (2*sN))+1))))*1099511627776))] rfl zL ?_;(with_reducible refine (aX.calls k1 akA t154 (wrap64 ((wrap64 ((wrap64 (2*sN))*(wrap64 ((wrap64 (2*sN))+1))))*1099511627776)) ahU _ A8.out).mono ?_);rintro e w' ⟨rfl,⟨nd,rfl⟩⟩;refine ⟨_,rfl,?_⟩))
    go_roundg k1
    case measure=>have:=HK1.out;omega
    case rel=>exact ⟨(wrap64 (pI+(wrap64 ((wrap64 (-gK))*ahU)))),(ahU),(wrap64 (-gK)),(wrap64 (sN+1)),zT,zT,zT,zT,H',⟨by have:=HK1.out;omega⟩,⟨zB⟩⟩
   ·rw [if_neg c7] at H
    have jc:=decide_eq_false c7
    clear c7
    obtain rfl:=Option.some.inj H
    go_wp2
    go_ret
    exact ⟨zS,zB⟩
end Go.Proofs.YtpondkggmcmpfaaGreatDoor.QA
namespace Go.Proofs.YtpondkggmcmpfaaGreatDoor.QA
open Go.Proofs.YtpondkggmcmpfaaGreatDoor.T
open Go.RowKit Go.Proofs.YtpondkggmcmpfaaGreatDoorW.PrintWords Go.Proofs.YtpondkggmcmpfaaGreatDoorW.PrintLast Go.Proofs.YtpondkggmcmpfaaGreatDoorW.PrintMore
attribute [local go_sem] dZ dS dU fK fM
set_option linter.unusedVariables false
set_option linter.unusedSimpArgs false
def dW.j0:Nat→Int→Int→Bool→Option (Int)
 | 0,_,_,_=>none
 | k+1,x0,x1,x15=>if x15=true then (some 0) else ((dV.f k x0 x1).bind fun akB=>((dV.f k x0 (wrap64 (3*x1))).bind fun t159=>((dh.f k akB t159 40).bind fun t160=>((mQ.f t160 10).bind fun apR=>(some apR)))))
def dW.f (k:Nat) (a0 a1:Int):Option (Int):=(vO.f a0 a1).bind fun t156=>(if t156=true then ((rH.f a0).bind fun t157=>(dW.j0 k a0 a1 (decide (t157≥(wrap64 (3*a1)))))) else (dW.j0 k a0 a1 true))
theorem dW.iU:∀ k,(∀ y0 y1 y2,LeO (dW.j0 k y0 y1 y2) (dW.j0 (k+1) y0 y1 y2))
 | 0=>fun _ _ _ r h=>by simp [dW.j0] at h
 | k+1=>by
  have ih0:=dW.iU k
  ·intro y0 y1 y2
   unfold dW.j0
   repeat' (with_reducible first|exact ih0 _ _ _|exact dV.mono _ _ _|exact dh.mono _ _ _ _|exact zM|refine LeO.ite ?_ ?_|refine LeO.bind ?_ (fun _ => ?_))
theorem dW.mono:∀ a0 a1 k,LeO (dW.f k a0 a1) (dW.f (k+1) a0 a1):=by
 intro a0 a1 k
 have ih0:=dW.iU k
 unfold dW.f
 repeat' (with_reducible first|exact ih0 _ _ _|exact dV.mono _ _ _|exact dh.mono _ _ _ _|exact zM|refine LeO.ite ?_ ?_|refine LeO.bind ?_ (fun _ => ?_))
set_option maxHeartbeats 8000000 in
set_option maxRecDepth 100000 in
theorem dW.calls (k:Nat) (a0 a1 r:Int) (w:World) (h:dW.f k a0 a1=some r) :
  Calls Tryz.prog 153 #[.int .i64 a0,.int .i64 a1] w fun e w'=>e = .returned (.int .i64 r)∧Below w.heap.size w w':=by
 have HB:=aj.mk (Below.refl w.heap.size w)
 have H:=h
 clear h
 unfold dW.f at H
 have HC3:=aj.mk H
 clear H
 go_enter Tryz.func153,Tryz.ntmps153
 go_upto_region 1 with (fail)
 go_cut [15] (fun v15 wc=>∃ (kq:Nat) (aja:Bool),v15 = .bool aja∧aj (dW.j0 kq a0 a1 aja=some r)∧aj (kq≤k)∧aj (Below w.heap.size w wc))
 case first =>
  have H:=HC3.out
  clear HC3
  replace H:=zO H
  obtain ⟨t156,A4,H⟩:=H
  try dsimp only at H
  by_cases c5:t156=true
  ·subst c5
   rw [if_pos rfl] at H;try dsimp only at H
   replace H:=zO H
   obtain ⟨t157,A6,H⟩:=H
   try dsimp only at H
   have H':=aj.mk H
   clear H
   go_wp2_with (first|((with_reducible refine ay (f:=174) rfl ?_);refine aH (some 7) rfl rfl Tryz.func174 (by kernel_rfl) rfl #[.int .i64 a0,.int .i64 a1] rfl zL ?_;(with_reducible refine (vO.calls a0 a1 true _ A4.out).mono ?_);rintro e w' ⟨rfl,⟨nd,rfl⟩⟩;refine ⟨_,rfl,?_⟩)|(go_at_call 175;(with_reducible refine (rH.calls a0 t157 _ A6.out).mono ?_);rintro e w7 ⟨rfl,hb⟩;replace HB:=aj.mk (ak zB hb);(try clear hb)))
   go_meet
   case rel=>exact ⟨_,(decide (t157≥(wrap64 (3*a1)))),zT,H',⟨by first|omega|exact Nat.le_refl _⟩,⟨zB⟩⟩
  ·replace c5:=Bool.eq_false_iff.mpr c5
   subst c5
   rw [if_neg (show ¬ (false=true) by decide)] at H;try dsimp only at H
   have H':=aj.mk H
   clear H
   go_wp2_with (first|((with_reducible refine ay (f:=174) rfl ?_);refine aH (some 7) rfl rfl Tryz.func174 (by kernel_rfl) rfl #[.int .i64 a0,.int .i64 a1] rfl zL ?_;(with_reducible refine (vO.calls a0 a1 false _ A4.out).mono ?_);rintro e w' ⟨rfl,⟨nd,rfl⟩⟩;refine ⟨_,rfl,?_⟩))
   go_meet
   case rel=>exact ⟨_,(true),zT,H',⟨by first|omega|exact Nat.le_refl _⟩,⟨zB⟩⟩
 case rest =>
  clear HC3
  obtain ⟨kq,aja,rfl,HA,HJ2,HB⟩:=hcut
  cases kq with
  | zero=>exact absurd HA.out (by simp [dW.j0])
  | succ kj2 =>
   have H:=HA.out
   clear HA
   simp only [dW.j0] at H
   by_cases c8:aja=true
   ·subst c8
    rw [if_pos rfl] at H;try dsimp only at H
    obtain rfl:=Option.some.inj H
    go_wp2
    go_ret
    exact ⟨zS,zB⟩
   ·replace c8:=Bool.eq_false_iff.mpr c8
    subst c8
    rw [if_neg (show ¬ (false=true) by decide)] at H;try dsimp only at H
    replace H:=zO H
    obtain ⟨akB,A9,H⟩:=H
    try dsimp only at H
    replace H:=zO H
    obtain ⟨t159,A10,H⟩:=H
    try dsimp only at H
    replace H:=zO H
    obtain ⟨t160,A11,H⟩:=H
    try dsimp only at H
    replace H:=zO H
    obtain ⟨apR,A12,H⟩:=H
    try dsimp only at H
    obtain rfl:=Option.some.inj H
    go_wp2_with (first|((with_reducible refine ay (f:=177) rfl ?_);refine aH (some 18) rfl rfl Tryz.func177 (by kernel_rfl) rfl #[.int .i64 a0,.int .i64 a1] rfl zL ?_;(with_reducible refine (dV.calls kj2 a0 a1 akB _ A9.out).mono ?_);rintro e w13 ⟨rfl,hb⟩;refine ⟨_,rfl,?_⟩;replace HB:=aj.mk (ak zB hb);(try clear hb))|((with_reducible refine ay (f:=177) rfl ?_);refine aH (some 22) rfl rfl Tryz.func177 (by kernel_rfl) rfl #[.int .i64 a0,.int .i64 (wrap64 (3*a1))] rfl zL ?_;(with_reducible refine (dV.calls kj2 a0 (wrap64 (3*a1)) t159 _ A10.out).mono ?_);rintro e w14 ⟨rfl,hb⟩;refine ⟨_,rfl,?_⟩;replace HB:=aj.mk (ak zB hb);(try clear hb))|((with_reducible refine ay (f:=176) rfl ?_);refine aH (some 23) rfl rfl Tryz.func176 (by kernel_rfl) rfl #[.int .i64 akB,.int .i64 t159,.int .i64 40] rfl zL ?_;(with_reducible refine (dh.calls kj2 akB t159 40 t160 _ A11.out).mono ?_);rintro e w15 ⟨rfl,hb⟩;refine ⟨_,rfl,?_⟩;replace HB:=aj.mk (ak zB hb);(try clear hb))|((with_reducible refine ay (f:=100) rfl ?_);refine aH (some 24) rfl rfl Tryz.func100 (by kernel_rfl) rfl #[.int .i64 t160,.int .i64 10] rfl zL ?_;(with_reducible refine (mQ.calls t160 10 apR _ A12.out).mono ?_);rintro e w' ⟨rfl,⟨nd,rfl⟩⟩;refine ⟨_,rfl,?_⟩))
    go_ret
    exact ⟨zS,zB⟩
def nK.f (k:Nat) (a0 a1 a2 a3 a4:Int):Option (Int):=if a0=0 then ((aX.f k (wrap64 ((mn (wrap64 ((wrap64 (a3+1))*a1)) (wrap64 ((wrap64 (a4+1))*a2))) - (mx (wrap64 (a3*a1)) (wrap64 (a4*a2))))) 1073741824 a1).bind fun t162=>(some t162)) else (if a0=1 then ((fF.f k (wrap64 ((wrap64 ((wrap64 ((wrap64 (2*a2))*a4)) - (wrap64 ((wrap64 ((wrap64 (2*a3))+1))*a1))))+a2)) (wrap64 (2*(mx a1 a2)))).bind fun akC=>(some akC)) else ((dW.f k (wrap64 ((wrap64 ((wrap64 ((wrap64 (2*a2))*a4)) - (wrap64 ((wrap64 ((wrap64 (2*a3))+1))*a1))))+a2)) (wrap64 (2*(mx a1 a2)))).bind fun t164=>(some t164)))
theorem nK.mono:∀ a0 a1 a2 a3 a4 k,LeO (nK.f k a0 a1 a2 a3 a4) (nK.f (k+1) a0 a1 a2 a3 a4):=by
 intro a0 a1 a2 a3 a4 k
 unfold nK.f
 repeat' (with_reducible first|exact fF.mono _ _ _|exact dW.mono _ _ _|exact aX.mono _ _ _ _|exact zM|refine LeO.ite ?_ ?_|refine LeO.bind ?_ (fun _ => ?_))
set_option maxHeartbeats 8000000 in
set_option maxRecDepth 100000 in
theorem nK.calls (k:Nat) (a0 a1 a2 a3 a4 r:Int) (w:World) (h:nK.f k a0 a1 a2 a3 a4=some r) :
  Calls Tryz.prog 129 #[.int .i64 a0,.int .i64 a1,.int .i64 a2,.int .i64 a3,.int .i64 a4] w fun e w'=>e = .returned (.int .i64 r)∧Below w.heap.size w w':=by
 have HB:=aj.mk (Below.refl w.heap.size w)
 have H:=h
 clear h
 unfold nK.f at H
 by_cases c6:a0=0
 ·rw [if_pos c6] at H
  have gQ:(a0 == 0)=true:=beq_iff_eq.mpr c6
  have uw:(a0 != 0)=false:=bne_eq_false_iff_eq.mpr c6
  clear c6
  obtain ⟨ji7,wY⟩:∃ j_:Int,(mn (wrap64 ((wrap64 (a3+1))*a1)) (wrap64 ((wrap64 (a4+1))*a2)))=j_:=⟨_,rfl⟩
  replace H:((aX.f k (wrap64 ((ji7) - (mx (wrap64 (a3*a1)) (wrap64 (a4*a2))))) 1073741824 a1).bind fun t162=>(some t162))=some r:=by first|(rw [wY] at H;exact H)|(simp only [wY] at H ⊢;exact H)
  have au1:(if (wrap64 ((wrap64 (a4+1))*a2)) < (wrap64 ((wrap64 (a3+1))*a1)) then (wrap64 ((wrap64 (a4+1))*a2)) else (wrap64 ((wrap64 (a3+1))*a1)))=ji7:=wY
  obtain ⟨ji8,qm⟩:∃ j_:Int,(mx (wrap64 (a3*a1)) (wrap64 (a4*a2)))=j_:=⟨_,rfl⟩
  replace H:((aX.f k (wrap64 ((ji7) - (ji8))) 1073741824 a1).bind fun t162=>(some t162))=some r:=by first|(rw [qm] at H;exact H)|(simp only [qm] at H ⊢;exact H)
  have aqJ:(if (wrap64 (a3*a1)) < (wrap64 (a4*a2)) then (wrap64 (a4*a2)) else (wrap64 (a3*a1)))=ji8:=qm
  replace H:=zO H
  obtain ⟨t162,A9,H⟩:=H
  try dsimp only at H
  obtain rfl:=Option.some.inj H
  go_enter Tryz.func129,Tryz.ntmps129
  go_wp2_with (first|((with_reducible refine ay (f:=130) rfl ?_);refine aH (some 35) rfl rfl Tryz.func130 (by kernel_rfl) rfl #[.int .i64 (wrap64 ((ji7) - (ji8))),.int .i64 1073741824,.int .i64 a1] rfl (by (try simp only [List.map_toArray,List.map_cons,List.map_nil]);first|done|(simp only [wY,qm];rfl)|rfl|(simp only [List.length_drop,List.length_take];rfl)) ?_;(with_reducible refine (aX.calls k (wrap64 ((ji7) - (ji8))) 1073741824 a1 t162 _ A9.out).mono ?_);rintro e w' ⟨rfl,⟨nd,rfl⟩⟩;refine ⟨_,rfl,?_⟩))
  go_ret
  exact ⟨by first|rfl|(simp [bK,bM] <;> rfl)|(simp only [← wY,← qm];first|rfl|(simp [bK,bM] <;> rfl))|(simp [*,bK,bM] <;> rfl),zB⟩
 ·rw [if_neg c6] at H
  have gQ:(a0 == 0)=false:=beq_eq_false_iff_ne.mpr c6
  have uw:(a0 != 0)=true:=bne_iff_ne.mpr c6
  obtain ⟨dB,jI⟩:∃ j_:Int,(mx a1 a2)=j_:=⟨_,rfl⟩
  replace H:(if a0=1 then ((fF.f k (wrap64 ((wrap64 ((wrap64 ((wrap64 (2*a2))*a4)) - (wrap64 ((wrap64 ((wrap64 (2*a3))+1))*a1))))+a2)) (wrap64 (2*(dB)))).bind fun akC=>(some akC)) else ((dW.f k (wrap64 ((wrap64 ((wrap64 ((wrap64 (2*a2))*a4)) - (wrap64 ((wrap64 ((wrap64 (2*a3))+1))*a1))))+a2)) (wrap64 (2*(dB)))).bind fun t164=>(some t164)))=some r:=by first|(rw [jI] at H;exact H)|(simp only [jI] at H ⊢;exact H)
  have ajP:(if a1 < a2 then a2 else a1)=dB:=jI
  by_cases c11:a0=1
  ·rw [if_pos c11] at H
   have iH:(a0 == 1)=true:=beq_iff_eq.mpr c11
   have wF:(a0 != 1)=false:=bne_eq_false_iff_eq.mpr c11
   clear c11
   replace H:=zO H
   obtain ⟨akC,A12,H⟩:=H
   try dsimp only at H
   obtain rfl:=Option.some.inj H
   go_enter Tryz.func129,Tryz.ntmps129
   go_wp2_with (first|((with_reducible refine ay (f:=108) rfl ?_);refine aH (some 56) rfl rfl Tryz.func108 (by kernel_rfl) rfl #[.int .i64 (wrap64 ((wrap64 ((wrap64 ((wrap64 (2*a2))*a4)) - (wrap64 ((wrap64 ((wrap64 (2*a3))+1))*a1))))+a2)),.int .i64 (wrap64 (2*(dB)))] rfl (by (try simp only [List.map_toArray,List.map_cons,List.map_nil]);first|done|(simp only [jI];rfl)|(simp only [Int.tdiv_eq_ediv_of_nonneg hji10l];rfl)|rfl|(simp only [List.length_drop,List.length_take];rfl)) ?_;(with_reducible refine (fF.calls k (wrap64 ((wrap64 ((wrap64 ((wrap64 (2*a2))*a4)) - (wrap64 ((wrap64 ((wrap64 (2*a3))+1))*a1))))+a2)) (wrap64 (2*(dB))) akC _ A12.out).mono ?_);rintro e w13 ⟨rfl,hb⟩;refine ⟨_,rfl,?_⟩;replace HB:=aj.mk (ak zB hb);(try clear hb)))
   go_ret
   exact ⟨by first|rfl|(simp [bK,bM] <;> rfl)|(simp only [← jI];first|rfl|(simp [bK,bM] <;> rfl))|(simp [*,bK,bM] <;> rfl),zB⟩
  ·rw [if_neg c11] at H
   have iH:(a0 == 1)=false:=beq_eq_false_iff_ne.mpr c11
   have wF:(a0 != 1)=true:=bne_iff_ne.mpr c11
   replace H:=zO H
   obtain ⟨t164,A14,H⟩:=H
   try dsimp only at H
   obtain rfl:=Option.some.inj H
   go_enter Tryz.func129,Tryz.ntmps129
   go_wp2_with (first|((with_reducible refine ay (f:=153) rfl ?_);refine aH (some 59) rfl rfl Tryz.func153 (by kernel_rfl) rfl #[.int .i64 (wrap64 ((wrap64 ((wrap64 ((wrap64 (2*a2))*a4)) - (wrap64 ((wrap64 ((wrap64 (2*a3))+1))*a1))))+a2)),.int .i64 (wrap64 (2*(dB)))] rfl (by (try simp only [List.map_toArray,List.map_cons,List.map_nil]);first|done|(simp only [jI];rfl)|(simp only [Int.tdiv_eq_ediv_of_nonneg hji10l];rfl)|rfl|(simp only [List.length_drop,List.length_take];rfl)) ?_;(with_reducible refine (dW.calls k (wrap64 ((wrap64 ((wrap64 ((wrap64 (2*a2))*a4)) - (wrap64 ((wrap64 ((wrap64 (2*a3))+1))*a1))))+a2)) (wrap64 (2*(dB))) t164 _ A14.out).mono ?_);rintro e w15 ⟨rfl,hb⟩;refine ⟨_,rfl,?_⟩;replace HB:=aj.mk (ak zB hb);(try clear hb)))
   go_ret
   exact ⟨by first|rfl|(simp [bK,bM] <;> rfl)|(simp only [← jI];first|rfl|(simp [bK,bM] <;> rfl))|(simp [*,bK,bM] <;> rfl),zB⟩
def iq.l0:Nat→Int→Int→Int→Int→Int→List Int→Int→Int→Option (Int × List Int)
 | 0,_,_,_,_,_,_,_,_=>none
 | k+1,x0,x1,x2,x3,x8,x9,x20,x21=>if x21 < x20 then ((nK.f k x0 x1 x2 x3 (wrap64 (x8+x21))).bind fun t167=>(if x9.length < 17592186044416 then (iq.l0 k x0 x1 x2 x3 x8 (x9 ++ [t167]) x20 (wrap64 (x21+1))) else (none))) else (some (x8,x9))
def iq.f (k:Nat) (a0 a1 a2 a3:Int):Option (Int × List Int):=(kU.f k a0 a1 a2 a3).bind fun aqO=>(iq.l0 k a0 a1 a2 a3 aqO.1 ([]:List Int) aqO.2 0)
theorem iq.iU:∀ k,(∀ y0 y1 y2 y3 y4 y5 y6 y7,LeO (iq.l0 k y0 y1 y2 y3 y4 y5 y6 y7) (iq.l0 (k+1) y0 y1 y2 y3 y4 y5 y6 y7))
 | 0=>fun _ _ _ _ _ _ _ _ r h=>by simp [iq.l0] at h
 | k+1=>by
  have ih0:=iq.iU k
  ·intro y0 y1 y2 y3 y4 y5 y6 y7
   unfold iq.l0
   repeat' (with_reducible first|exact ih0 _ _ _ _ _ _ _ _|exact kU.mono _ _ _ _ _|exact nK.mono _ _ _ _ _ _|exact zM|refine LeO.ite ?_ ?_|refine LeO.bind ?_ (fun _ => ?_))
theorem iq.mono:∀ a0 a1 a2 a3 k,LeO (iq.f k a0 a1 a2 a3) (iq.f (k+1) a0 a1 a2 a3):=by
 intro a0 a1 a2 a3 k
 have ih0:=iq.iU k
 unfold iq.f
 repeat' (with_reducible first|exact ih0 _ _ _ _ _ _ _ _|exact kU.mono _ _ _ _ _|exact nK.mono _ _ _ _ _ _|exact zM|refine LeO.ite ?_ ?_|refine LeO.bind ?_ (fun _ => ?_))
set_option maxHeartbeats 8000000 in
set_option maxRecDepth 100000 in
theorem iq.calls (k:Nat) (a0 a1 a2 a3 r1:Int) (r2:List Int) (w:World) (hG:GL w) (h:iq.f k a0 a1 a2 a3=some (r1,r2)) :
  Calls Tryz.prog 107 #[.int .i64 a0,.int .i64 a1,.int .i64 a2,.int .i64 a3] w fun e w'=>∃ v1_:Value,e = .returned (.tuple #[.int .i64 r1,v1_])∧Kd.R (Kd.int .i64) 2 w' w.heap.size (fun _=>True) v1_ r2∧Below w.heap.size w w':=by
 have HB:=aj.mk (Below.refl w.heap.size w)
 have H:=h
 clear h
 unfold iq.f at H
 replace H:=zO H
 obtain ⟨⟨akD,am1⟩,A5,H⟩:=H
 try dsimp only at H
 have H':=aj.mk H
 clear H
 go_enter Tryz.func107,Tryz.ntmps107
 go_wp2_with (first|((with_reducible refine ay (f:=128) rfl ?_);refine aH (some 17) rfl rfl Tryz.func128 (by kernel_rfl) rfl #[.int .i64 a0,.int .i64 a1,.int .i64 a2,.int .i64 a3] rfl zL ?_;(with_reducible refine (kU.calls k a0 a1 a2 a3 akD am1 _ (by exact GL.below hG (by repeat (first|(with_reducible first|exact HB.out|apply aZ|apply aN|apply dA)|exact HB.out|exact Below.refl _ _))) A5.out).mono ?_);rintro e w6 ⟨rfl,hb⟩;refine ⟨_,rfl,?_⟩;replace HB:=aj.mk (ak zB hb);(try clear hb)))
 go_loopg [9,21] k (fun kq v9 v21 w'=>∃ (sN:List Int) (vK:Int),v21 = .int .i64 vK∧aj (iq.l0 kq a0 a1 a2 a3 akD sN am1 vK=some (r1,r2))∧aj (kq≤k)∧aj (Kd.R (Kd.int .i64) 2 w' w.heap.size (fun _=>True) v9 sN)∧aj (Below w.heap.size w w'))
 case atStart=>exact ⟨(([]:List Int)),(0),zT,H',⟨Nat.le_refl _⟩,⟨by first|exact Kd.jR _ _ _ _ _|exact Kd.oW _ _ _ _ _|exact Kd.nP _ _ _ _ _|exact Kd.oZ _ _ _ _ _|exact Kd.oL _ _ _ _ _⟩,⟨zB⟩⟩
 case round =>
  clear H'
  obtain ⟨sN,vK,rfl,HA,HK1,am2,HB⟩:=hrel
  cases gk with
  | zero=>exact absurd HA.out (by simp [iq.l0])
  | succ k1 =>
   have H:=HA.out
   clear HA
   simp only [iq.l0] at H
   by_cases c7:vK < am1
   ·rw [if_pos c7] at H
    have jc:=decide_eq_true c7
    clear c7
    replace H:=zO H
    obtain ⟨t167,A8,H⟩:=H
    try dsimp only at H
    by_cases c9:sN.length < 17592186044416
    ·rw [if_pos c9] at H
     have av9:=aj.mk c9
     clear c9
     obtain ⟨y168,hy168⟩:∃ y_:List Int,y_=(sN ++ [t167]):=⟨_,rfl⟩
     replace H:(iq.l0 k1 a0 a1 a2 a3 akD y168 am1 (wrap64 (vK+1)))=some (r1,r2):=by first|(rw [hy168];with_reducible exact H)|(have H2_:=(Option.bind_some _ _).symm.trans H;rw [hy168];with_reducible exact H2_)|(have H2_:=(Option.bind_some _ _).symm.trans H;with_reducible exact H2_)|with_reducible exact H|(rw [hy168];exact H)|exact H
     have au3:=aj.mk hy168
     clear hy168
     have H':=aj.mk H
     clear H
     go_wp2_with (first|((with_reducible refine ay (f:=129) rfl ?_);refine aH (some 32) rfl rfl Tryz.func129 (by kernel_rfl) rfl #[.int .i64 a0,.int .i64 a1,.int .i64 a2,.int .i64 a3,.int .i64 (wrap64 (akD+vK))] rfl zL ?_;(with_reducible refine (nK.calls k1 a0 a1 a2 a3 (wrap64 (akD+vK)) t167 _ A8.out).mono ?_);rintro e w10 ⟨rfl,hb⟩;refine ⟨_,rfl,?_⟩;obtain ⟨am2,HB⟩:=zA2 (Kd.jA (by (with_reducible repeat (first|apply Kd.aJ|apply Kd.aK|apply Kd.aU));exact am2.out) hb) (ak zB hb);(try clear hb))|((with_reducible refine jG (b := .append) (xs := #[.tmp 24,.tmp 33]) rfl ?_);at_builtin;refine Kd.kJ (Kd.int .i64) (w0:=w) w.heap.size rfl (.tmp 24) (.tmp 33) 44 2 (.int .i64 0) 8 rfl Tryz.underlying44 vC rfl (by decide) (by omega) u9 sN t167 [.int .i64 t167] (fun _=>True) (fun _=>False) rfl rfl ?aP (fun _ hk=>hk.elim) ?aF ?aO ?aB ?aS ?aL ?_;(case aP=>exact rfl);(case aB=>exact zB);(case aF=>exact (fun _ _=>trivial));(case aO=>exact (by (with_reducible repeat (first|apply Kd.aJ|apply Kd.aK|apply Kd.aU));exact am2.out));(case aS=>exact (bJ zB));(case aL=>have:=av9.out;omega);intro aBa w11 ho hb hg hat;rw [← au3.out] at ho;obtain ⟨HB,au4⟩:=zA2 hb ho;clear ho hb hg hat))
     go_roundg k1
     case measure=>have:=HK1.out;omega
     case rel=>exact ⟨(y168),(wrap64 (vK+1)),zT,H',⟨by have:=HK1.out;omega⟩,⟨by (with_reducible repeat (first|apply Kd.aJ|apply Kd.aK|apply Kd.aU));exact au4.out⟩,⟨zB⟩⟩
    ·rw [if_neg c9] at H
     exact absurd H (by simp)
   ·rw [if_neg c7] at H
    have jc:=decide_eq_false c7
    clear c7
    simp only [Option.some.injEq,Prod.mk.injEq] at H
    obtain ⟨rfl,rfl⟩:=H
    go_wp2
    go_ret2
    exact ⟨_,zS,by (with_reducible repeat (first|apply Kd.aJ|apply Kd.aK|apply Kd.aU));exact am2.out,zB⟩
end Go.Proofs.YtpondkggmcmpfaaGreatDoor.QA
namespace Go.Proofs.YtpondkggmcmpfaaGreatDoor.QA
open Go.Proofs.YtpondkggmcmpfaaGreatDoor.T
open Go.RowKit Go.Proofs.YtpondkggmcmpfaaGreatDoorW.PrintWords Go.Proofs.YtpondkggmcmpfaaGreatDoorW.PrintLast Go.Proofs.YtpondkggmcmpfaaGreatDoorW.PrintMore
attribute [local go_sem] dZ dS dU fK fM
set_option linter.unusedVariables false
set_option linter.unusedSimpArgs false
def lS.f (a0:Int):Option (Bool):=if a0≥1 then (some (decide (a0≤65536))) else (some false)
set_option maxHeartbeats 8000000 in
set_option maxRecDepth 100000 in
theorem lS.calls (a0:Int) (r:Bool) (w:World) (h:lS.f a0=some r) :
  Calls Tryz.prog 111 #[.int .i64 a0] w fun e w'=>e = .returned (.bool r)∧dw w w':=by
 have H:=h
 clear h
 unfold lS.f at H
 by_cases c2:a0≥1
 ·rw [if_pos c2] at H
  have mZ:=decide_eq_true c2
  clear c2
  obtain rfl:=Option.some.inj H
  go_enter Tryz.func111,Tryz.ntmps111
  go_wp2
  go_ret
  exact ⟨zT,zW⟩
 ·rw [if_neg c2] at H
  have mZ:=decide_eq_false c2
  clear c2
  obtain rfl:=Option.some.inj H
  go_enter Tryz.func111,Tryz.ntmps111
  go_wp2
  go_ret
  exact ⟨zT,zW⟩
def kF.l0:Nat→Int→List Int→Int→Int→Option (Int)
 | 0,_,_,_,_=>none
 | k+1,x3,x6,x7,x8=>if x8 < x7 then (if 0≤x8 then (if x8 < (x6.length:Int) then ((tZ.f k (rd x6 x8)).bind fun akE=>((kS.f k x3 akE).bind fun t182=>(kF.l0 k t182 x6 x7 (wrap64 (x8+1))))) else (none)) else (none)) else (some x3)
def kF.f (k:Nat) (l0:List Int):Option (Int):=kF.l0 k 0 l0 (l0.length:Int) 0
set_option maxHeartbeats 8000000 in
set_option maxRecDepth 100000 in
theorem kF.calls (k:Nat) (A0:Option Addr) (c0:Nat) (l0:List Int) (r:Int) (w:World) (hr0:Kd.C (Kd.int .i64) w A0 l0.length l0) (hc0:l0.length≤c0) (h:kF.f k l0=some r) :
  Calls Tryz.prog 138 #[.slice A0 l0.length c0] w fun e w'=>e = .returned (.int .i64 r)∧Below w.heap.size w w':=by
 have HR0:=aj.mk hr0
 have HC0:=aj.mk hc0
 clear hr0 hc0
 have HB:=aj.mk (Below.refl w.heap.size w)
 have H:=h
 clear h
 unfold kF.f at H
 have H':=aj.mk H
 clear H
 go_enter Tryz.func138,Tryz.ntmps138
 go_wp2
 go_loopg [3,8] k (fun kq v3 v8 w'=>∃ (qN:Int) (gK:Int),v3 = .int .i64 qN∧v8 = .int .i64 gK∧aj (kF.l0 kq qN l0 (l0.length:Int) gK=some r)∧aj (kq≤k)∧aj (Below w.heap.size w w'))
 case atStart=>exact ⟨(0),(0),zT,zT,H',⟨Nat.le_refl _⟩,⟨zB⟩⟩
 case round =>
  clear H'
  obtain ⟨qN,gK,rfl,rfl,HA,HK1,HB⟩:=hrel
  cases gk with
  | zero=>exact absurd HA.out (by simp [kF.l0])
  | succ k1 =>
   have H:=HA.out
   clear HA
   simp only [kF.l0] at H
   by_cases c2:gK < (l0.length:Int)
   ·rw [if_pos c2] at H
    have mZ:=decide_eq_true c2
    clear c2
    by_cases c3:0≤gK
    ·rw [if_pos c3] at H
     have fP:=decide_eq_true c3
     clear c3
     by_cases c4:gK < (l0.length:Int)
     ·rw [if_pos c4] at H
      have fE:=decide_eq_true c4
      clear c4
      replace H:=zO H
      obtain ⟨akE,A5,H⟩:=H
      try dsimp only at H
      replace H:=zO H
      obtain ⟨t182,A6,H⟩:=H
      try dsimp only at H
      have H':=aj.mk H
      clear H
      have apS:0≤(gK:Int):=of_decide_eq_true (by first|(with_reducible assumption)|assumption)
      have apT:gK < (l0.length:Int):=of_decide_eq_true (by first|(with_reducible assumption)|assumption)
      obtain ⟨aAs,awc,ahV⟩:=Kd.jF HR0.out gK apS apT
      cases awc
      replace ahV:=(HB.out.cell (World.block_lt_of_cell? w _ ahV)).trans ahV
      replace apS:=eq_true apS
      replace apT:=eq_true apT
      go_wp2_with (first|((with_reducible refine ay (f:=161) rfl ?_);refine aH (some 14) rfl rfl Tryz.func161 (by kernel_rfl) rfl #[.int .i64 (rd l0 gK)] rfl zL ?_;(with_reducible refine (tZ.calls k1 (rd l0 gK) akE _ A5.out).mono ?_);rintro e w7 ⟨rfl,hb⟩;refine ⟨_,rfl,?_⟩;replace HB:=aj.mk (ak zB hb);(try clear hb))|((with_reducible refine ay (f:=162) rfl ?_);refine aH (some 15) rfl rfl Tryz.func162 (by kernel_rfl) rfl #[.int .i64 qN,.int .i64 akE] rfl zL ?_;(with_reducible refine (kS.calls k1 qN akE t182 _ A6.out).mono ?_);rintro e w' ⟨rfl,⟨nd,rfl⟩⟩;refine ⟨_,rfl,?_⟩))
      go_roundg k1
      case measure=>have:=HK1.out;omega
      case rel=>exact ⟨(t182),(wrap64 (gK+1)),zT,zT,H',⟨by have:=HK1.out;omega⟩,⟨zB⟩⟩
     ·rw [if_neg c4] at H
      exact absurd H (by simp)
    ·rw [if_neg c3] at H
     exact absurd H (by simp)
   ·rw [if_neg c2] at H
    have mZ:=decide_eq_false c2
    clear c2
    obtain rfl:=Option.some.inj H
    go_wp2
    go_ret
    exact ⟨zS,zB⟩
def iC.l0:Nat→Int→Int→Int→Int→Int→Option (Int)
 | 0,_,_,_,_,_=>none
 | k+1,x3,x4,x5,x6,x14=>if x14 < 16 then ((aX.f k x6 x4 (wrap64 ((wrap64 (x14+1))*1099511627776))).bind fun t183=>(if (Int.tmod x14 2)=0 then (iC.l0 k x3 x4 (wrap64 (x5 - t183)) t183 (wrap64 (x14+1))) else (iC.l0 k x3 x4 (wrap64 (x5+t183)) t183 (wrap64 (x14+1))))) else ((mQ.f x5 x3).bind fun apU=>(some apU))
def iC.f (k:Nat) (a0:Int):Option (Int):=iC.l0 k (wrap64 ((mx 0 a0) / 762123384786)) ((mx 0 a0) % 762123384786) 1099511627776 1099511627776 0
theorem iC.iU:∀ k,(∀ y0 y1 y2 y3 y4,LeO (iC.l0 k y0 y1 y2 y3 y4) (iC.l0 (k+1) y0 y1 y2 y3 y4))
 | 0=>fun _ _ _ _ _ r h=>by simp [iC.l0] at h
 | k+1=>by
  have ih0:=iC.iU k
  ·intro y0 y1 y2 y3 y4
   unfold iC.l0
   repeat' (with_reducible first|exact ih0 _ _ _ _ _|exact aX.mono _ _ _ _|exact zM|refine LeO.ite ?_ ?_|refine LeO.bind ?_ (fun _ => ?_))
theorem iC.mono:∀ a0 k,LeO (iC.f k a0) (iC.f (k+1) a0):=by
 intro a0 k
 have ih0:=iC.iU k
 unfold iC.f
 repeat' (with_reducible first|exact ih0 _ _ _ _ _|exact aX.mono _ _ _ _|exact zM|refine LeO.ite ?_ ?_|refine LeO.bind ?_ (fun _ => ?_))
set_option maxHeartbeats 8000000 in
set_option maxRecDepth 100000 in
theorem iC.calls (k:Nat) (a0 r:Int) (w:World) (h:iC.f k a0=some r) :
  Calls Tryz.prog 167 #[.int .i64 a0] w fun e w'=>e = .returned (.int .i64 r)∧Below w.heap.size w w':=by
 have HB:=aj.mk (Below.refl w.heap.size w)
 have H:=h
 clear h
 unfold iC.f at H
 obtain ⟨ji2,aad⟩:∃ j_:Int,(mx 0 a0)=j_:=⟨_,rfl⟩
 replace H:(iC.l0 k (wrap64 ((ji2) / 762123384786)) ((ji2) % 762123384786) 1099511627776 1099511627776 0)=some r:=by first|(rw [aad] at H;exact H)|(simp only [aad] at H ⊢;exact H)
 (try (have am3:0≤ji2:=by (rw [← aad];unfold mx;(repeat' split) <;> omega)))
 (try (have aAt:0≤ji2:=by omega))
 have au0:(if 0 < a0 then a0 else 0)=ji2:=aad
 have H':=aj.mk H
 clear H
 go_enter Tryz.func167,Tryz.ntmps167
 go_wp2
 go_loopg [5,6,14] k (fun kq v5 v6 v14 w'=>∃ (afT:Int) (pI:Int) (uK:Int),v5 = .int .i64 afT∧v6 = .int .i64 pI∧v14 = .int .i64 uK∧aj (iC.l0 kq (wrap64 ((ji2) / 762123384786)) ((ji2) % 762123384786) afT pI uK=some r)∧aj (kq≤k)∧aj (Below w.heap.size w w'))
 case atStart=>exact ⟨(1099511627776),(1099511627776),(0),zT,zT,zT,H',⟨Nat.le_refl _⟩,⟨zB⟩⟩
 case round =>
  clear H'
  obtain ⟨afT,pI,uK,rfl,rfl,rfl,HA,HK1,HB⟩:=hrel
  cases gk with
  | zero=>exact absurd HA.out (by simp [iC.l0])
  | succ k1 =>
   have H:=HA.out
   clear HA
   simp only [iC.l0] at H
   by_cases c3:uK < 16
   ·rw [if_pos c3] at H
    have fP:=decide_eq_true c3
    clear c3
    replace H:=zO H
    obtain ⟨t183,A4,H⟩:=H
    try dsimp only at H
    by_cases c5:(Int.tmod uK 2)=0
    ·rw [if_pos c5] at H
     have iw:((Int.tmod uK 2) == 0)=true:=beq_iff_eq.mpr c5
     have abo:((Int.tmod uK 2) != 0)=false:=bne_eq_false_iff_eq.mpr c5
     clear c5
     have H':=aj.mk H
     clear H
     go_wp2_with (first|((with_reducible refine ay (f:=130) rfl ?_);refine aH (some 22) rfl rfl Tryz.func130 (by kernel_rfl) rfl #[.int .i64 pI,.int .i64 ((ji2) % 762123384786),.int .i64 (wrap64 ((wrap64 (uK+1))*1099511627776))] rfl (by (try simp only [List.map_toArray,List.map_cons,List.map_nil]);first|done|(simp only [aad];rfl)|(simp only [Int.tdiv_eq_ediv_of_nonneg am3];rfl)|rfl|(simp only [List.length_drop,List.length_take];rfl)) ?_;(with_reducible refine (aX.calls k1 pI ((ji2) % 762123384786) (wrap64 ((wrap64 (uK+1))*1099511627776)) t183 _ A4.out).mono ?_);rintro e w' ⟨rfl,⟨nd,rfl⟩⟩;refine ⟨_,rfl,?_⟩))
     go_roundg k1
     case measure=>have:=HK1.out;omega
     case rel=>exact ⟨(wrap64 (afT - t183)),(t183),(wrap64 (uK+1)),zT,zT,zT,H',⟨by have:=HK1.out;omega⟩,⟨zB⟩⟩
    ·rw [if_neg c5] at H
     have iw:((Int.tmod uK 2) == 0)=false:=beq_eq_false_iff_ne.mpr c5
     have abo:((Int.tmod uK 2) != 0)=true:=bne_iff_ne.mpr c5
     have H':=aj.mk H
     clear H
     go_wp2_with (first|((with_reducible refine ay (f:=130) rfl ?_);refine aH (some 22) rfl rfl Tryz.func130 (by kernel_rfl) rfl #[.int .i64 pI,.int .i64 ((ji2) % 762123384786),.int .i64 (wrap64 ((wrap64 (uK+1))*1099511627776))] rfl (by (try simp only [List.map_toArray,List.map_cons,List.map_nil]);first|done|(simp only [aad];rfl)|(simp only [Int.tdiv_eq_ediv_of_nonneg am3];rfl)|rfl|(simp only [List.length_drop,List.length_take];rfl)) ?_;(with_reducible refine (aX.calls k1 pI ((ji2) % 762123384786) (wrap64 ((wrap64 (uK+1))*1099511627776)) t183 _ A4.out).mono ?_);rintro e w' ⟨rfl,⟨nd,rfl⟩⟩;refine ⟨_,rfl,?_⟩))
     go_roundg k1
     case measure=>have:=HK1.out;omega
     case rel=>exact ⟨(wrap64 (afT+t183)),(t183),(wrap64 (uK+1)),zT,zT,zT,H',⟨by have:=HK1.out;omega⟩,⟨zB⟩⟩
   ·rw [if_neg c3] at H
    have fP:=decide_eq_false c3
    clear c3
    replace H:=zO H
    obtain ⟨apU,A6,H⟩:=H
    try dsimp only at H
    obtain rfl:=Option.some.inj H
    go_wp2_with (first|((with_reducible refine ay (f:=100) rfl ?_);refine aH (some 35) rfl rfl Tryz.func100 (by kernel_rfl) rfl #[.int .i64 afT,.int .i64 (wrap64 ((ji2) / 762123384786))] rfl (by (try simp only [List.map_toArray,List.map_cons,List.map_nil]);first|done|(simp only [aad];rfl)|(simp only [Int.tdiv_eq_ediv_of_nonneg am3];rfl)|rfl|(simp only [List.length_drop,List.length_take];rfl)) ?_;(with_reducible refine (mQ.calls afT (wrap64 ((ji2) / 762123384786)) apU _ A6.out).mono ?_);rintro e w' ⟨rfl,⟨nd,rfl⟩⟩;refine ⟨_,rfl,?_⟩))
    go_ret
    exact ⟨by first|rfl|(simp [bK,bM] <;> rfl)|(simp only [← aad];first|rfl|(simp [bK,bM] <;> rfl))|(simp [*,bK,bM] <;> rfl),zB⟩
def mW.f (k:Nat) (a0 a1:Int):Option (Int):=if a1 < 1 then (some 9223372036854775807) else (if a1 > 4194304 then (some 9223372036854775807) else (if a0 < (-16384) then (some 9223372036854775807) else (if a0 > 16384 then (some 9223372036854775807) else ((aX.f k (wrap64 ((wrap64 (a0*a0))*2147483648)) 1099511627776 (wrap64 (a1*a1))).bind fun apV=>(some apV)))))
theorem mW.mono:∀ a0 a1 k,LeO (mW.f k a0 a1) (mW.f (k+1) a0 a1):=by
 intro a0 a1 k
 unfold mW.f
 repeat' (with_reducible first|exact aX.mono _ _ _ _|exact zM|refine LeO.ite ?_ ?_|refine LeO.bind ?_ (fun _ => ?_))
set_option maxHeartbeats 8000000 in
set_option maxRecDepth 100000 in
theorem mW.calls (k:Nat) (a0 a1 r:Int) (w:World) (h:mW.f k a0 a1=some r) :
  Calls Tryz.prog 168 #[.int .i64 a0,.int .i64 a1] w fun e w'=>e = .returned (.int .i64 r)∧dw w w':=by
 have H:=h
 clear h
 unfold mW.f at H
 by_cases c3:a1 < 1
 ·rw [if_pos c3] at H
  have fP:=decide_eq_true c3
  clear c3
  obtain rfl:=Option.some.inj H
  go_enter Tryz.func168,Tryz.ntmps168
  go_wp2
  go_ret
  exact ⟨zT,zW⟩
 ·rw [if_neg c3] at H
  have fP:=decide_eq_false c3
  clear c3
  by_cases c4:a1 > 4194304
  ·rw [if_pos c4] at H
   have fE:=decide_eq_true c4
   clear c4
   obtain rfl:=Option.some.inj H
   go_enter Tryz.func168,Tryz.ntmps168
   go_wp2
   go_ret
   exact ⟨zT,zW⟩
  ·rw [if_neg c4] at H
   have fE:=decide_eq_false c4
   clear c4
   by_cases c5:a0 < (-16384)
   ·rw [if_pos c5] at H
    have iw:=decide_eq_true c5
    clear c5
    obtain rfl:=Option.some.inj H
    go_enter Tryz.func168,Tryz.ntmps168
    go_wp2
    go_ret
    exact ⟨zT,zW⟩
   ·rw [if_neg c5] at H
    have iw:=decide_eq_false c5
    clear c5
    by_cases c6:a0 > 16384
    ·rw [if_pos c6] at H
     have gQ:=decide_eq_true c6
     clear c6
     obtain rfl:=Option.some.inj H
     go_enter Tryz.func168,Tryz.ntmps168
     go_wp2
     go_ret
     exact ⟨zT,zW⟩
    ·rw [if_neg c6] at H
     have gQ:=decide_eq_false c6
     clear c6
     replace H:=zO H
     obtain ⟨apV,A7,H⟩:=H
     try dsimp only at H
     obtain rfl:=Option.some.inj H
     go_enter Tryz.func168,Tryz.ntmps168
     go_wp2_with (first|((with_reducible refine ay (f:=130) rfl ?_);refine aH (some 26) rfl rfl Tryz.func130 (by kernel_rfl) rfl #[.int .i64 (wrap64 ((wrap64 (a0*a0))*2147483648)),.int .i64 1099511627776,.int .i64 (wrap64 (a1*a1))] rfl zL ?_;(with_reducible refine (aX.calls k (wrap64 ((wrap64 (a0*a0))*2147483648)) 1099511627776 (wrap64 (a1*a1)) apV _ A7.out).mono ?_);rintro e w' ⟨rfl,⟨nd,rfl⟩⟩;refine ⟨_,rfl,?_⟩))
     go_ret
     exact ⟨zT,zW⟩
def kV.f (k:Nat) (a0 a1:Int):Option (Int):=(mW.f k a0 a1).bind fun akF=>((iC.f k akF).bind fun akG=>((mQ.f akG 10).bind fun apW=>(some apW)))
theorem kV.mono:∀ a0 a1 k,LeO (kV.f k a0 a1) (kV.f (k+1) a0 a1):=by
 intro a0 a1 k
 unfold kV.f
 repeat' (with_reducible first|exact iC.mono _ _|exact mW.mono _ _ _|exact zM|refine LeO.ite ?_ ?_|refine LeO.bind ?_ (fun _ => ?_))
set_option maxHeartbeats 8000000 in
set_option maxRecDepth 100000 in
theorem kV.calls (k:Nat) (a0 a1 r:Int) (w:World) (h:kV.f k a0 a1=some r) :
  Calls Tryz.prog 137 #[.int .i64 a0,.int .i64 a1] w fun e w'=>e = .returned (.int .i64 r)∧Below w.heap.size w w':=by
 have HB:=aj.mk (Below.refl w.heap.size w)
 have H:=h
 clear h
 unfold kV.f at H
 replace H:=zO H
 obtain ⟨akF,A3,H⟩:=H
 try dsimp only at H
 replace H:=zO H
 obtain ⟨akG,A4,H⟩:=H
 try dsimp only at H
 replace H:=zO H
 obtain ⟨apW,A5,H⟩:=H
 try dsimp only at H
 obtain rfl:=Option.some.inj H
 go_enter Tryz.func137,Tryz.ntmps137
 go_wp2_with (first|((with_reducible refine ay (f:=168) rfl ?_);refine aH (some 7) rfl rfl Tryz.func168 (by kernel_rfl) rfl #[.int .i64 a0,.int .i64 a1] rfl zL ?_;(with_reducible refine (mW.calls k a0 a1 akF _ A3.out).mono ?_);rintro e w' ⟨rfl,⟨nd,rfl⟩⟩;refine ⟨_,rfl,?_⟩)|((with_reducible refine ay (f:=167) rfl ?_);refine aH (some 8) rfl rfl Tryz.func167 (by kernel_rfl) rfl #[.int .i64 akF] rfl zL ?_;(with_reducible refine (iC.calls k akF akG _ A4.out).mono ?_);rintro e w6 ⟨rfl,hb⟩;refine ⟨_,rfl,?_⟩;replace HB:=aj.mk (ak zB hb);(try clear hb))|((with_reducible refine ay (f:=100) rfl ?_);refine aH (some 9) rfl rfl Tryz.func100 (by kernel_rfl) rfl #[.int .i64 akG,.int .i64 10] rfl zL ?_;(with_reducible refine (mQ.calls akG 10 apW _ A5.out).mono ?_);rintro e w' ⟨rfl,⟨nd,rfl⟩⟩;refine ⟨_,rfl,?_⟩))
 go_ret
 exact ⟨zS,zB⟩
end Go.Proofs.YtpondkggmcmpfaaGreatDoor.QA
namespace Go.Proofs.YtpondkggmcmpfaaGreatDoor.QA
open Go.Proofs.YtpondkggmcmpfaaGreatDoor.T
open Go.RowKit Go.Proofs.YtpondkggmcmpfaaGreatDoorW.PrintWords Go.Proofs.YtpondkggmcmpfaaGreatDoorW.PrintLast Go.Proofs.YtpondkggmcmpfaaGreatDoorW.PrintMore
attribute [local go_sem] dZ dS dU fK fM
set_option linter.unusedVariables false
set_option linter.unusedSimpArgs false
mutual
def bn.j0:Nat→Int→Bool→Option (List Int × Int)
 | 0,_,_=>none
 | k+1,x0,x12=>if x12=true then (some (([]:List Int),7)) else (bn.l0 k x0 ((wrap64 ((wrap64 ((wrap64 (3*x0))+65536)) - 1)) / 65536) ([]:List Int) (wrap64 (-((wrap64 ((wrap64 ((wrap64 (3*x0))+65536)) - 1)) / 65536))))
def bn.l0:Nat→Int→Int→List Int→Int→Option (List Int × Int)
 | 0,_,_,_,_=>none
 | k+1,x0,x4,x5,x6=>if x6≤x4 then ((kV.f k x6 x0).bind fun ahW=>(if x5.length < 17592186044416 then (bn.l0 k x0 x4 (x5 ++ [ahW]) (wrap64 (x6+1))) else (none))) else (some (x5,0))
end
def bn.f (k:Nat) (a0:Int):Option (List Int × Int):=if a0 < 1 then (bn.j0 k a0 true) else (bn.j0 k a0 (decide (a0 > 4194304)))
theorem bn.iU:∀ k,(∀ y0 y1,LeO (bn.j0 k y0 y1) (bn.j0 (k+1) y0 y1))∧(∀ y0 y1 y2 y3,LeO (bn.l0 k y0 y1 y2 y3) (bn.l0 (k+1) y0 y1 y2 y3))
 | 0=>⟨fun _ _ r h=>by simp [bn.j0] at h,fun _ _ _ _ r h=>by simp [bn.l0] at h⟩
 | k+1=>by
  obtain ⟨ih0,ih1⟩:=bn.iU k
  refine ⟨?_,?_⟩
  ·intro y0 y1
   unfold bn.j0
   repeat' (with_reducible first|exact ih0 _ _|exact ih1 _ _ _ _|exact kV.mono _ _ _|exact zM|refine LeO.ite ?_ ?_|refine LeO.bind ?_ (fun _ => ?_))
  ·intro y0 y1 y2 y3
   unfold bn.l0
   repeat' (with_reducible first|exact ih0 _ _|exact ih1 _ _ _ _|exact kV.mono _ _ _|exact zM|refine LeO.ite ?_ ?_|refine LeO.bind ?_ (fun _ => ?_))
theorem bn.mono:∀ a0 k,LeO (bn.f k a0) (bn.f (k+1) a0):=by
 intro a0 k
 obtain ⟨ih0,ih1⟩:=bn.iU k
 unfold bn.f
 repeat' (with_reducible first|exact ih0 _ _|exact ih1 _ _ _ _|exact kV.mono _ _ _|exact zM|refine LeO.ite ?_ ?_|refine LeO.bind ?_ (fun _ => ?_))
set_option maxHeartbeats 8000000 in
set_option maxRecDepth 100000 in
theorem bn.calls (k:Nat) (a0:Int) (r1:List Int) (r2:Int) (w:World) (h:bn.f k a0=some (r1,r2)) :
  Calls Tryz.prog 110 #[.int .i64 a0] w fun e w'=>∃ v0_:Value,e = .returned (.tuple #[v0_,.int .i64 r2])∧Kd.R (Kd.int .i64) 2 w' w.heap.size (fun _=>True) v0_ r1∧Below w.heap.size w w':=by
 have HB:=aj.mk (Below.refl w.heap.size w)
 have H:=h
 clear h
 unfold bn.f at H
 have HC2:=aj.mk H
 clear H
 go_enter Tryz.func110,Tryz.ntmps110
 go_upto_region 1 with (fail)
 go_cut [12] (fun v12 wc=>∃ (kq:Nat) (aaV:Bool),v12 = .bool aaV∧aj (bn.j0 kq a0 aaV=some (r1,r2))∧aj (kq≤k)∧aj (Below w.heap.size w wc))
 case first =>
  have H:=HC2.out
  clear HC2
  by_cases c3:a0 < 1
  ·rw [if_pos c3] at H
   have fP:=decide_eq_true c3
   clear c3
   (first|rw [fP]|(simp only [bY,cZ];rw [fP])|skip)
   have H':=aj.mk H
   clear H
   go_wp2
   go_meet
   case rel=>exact ⟨_,(true),zT,H',⟨by first|omega|exact Nat.le_refl _⟩,⟨zB⟩⟩
  ·rw [if_neg c3] at H
   have fP:=decide_eq_false c3
   clear c3
   (first|rw [fP]|(simp only [bY,cZ];rw [fP])|skip)
   have H':=aj.mk H
   clear H
   go_wp2
   go_meet
   case rel=>exact ⟨_,(decide (a0 > 4194304)),zT,H',⟨by first|omega|exact Nat.le_refl _⟩,⟨zB⟩⟩
 case rest =>
  clear HC2
  obtain ⟨kq,aaV,rfl,HA,HJ1,HB⟩:=hcut
  cases kq with
  | zero=>exact absurd HA.out (by simp [bn.j0])
  | succ kj1 =>
   have H:=HA.out
   clear HA
   simp only [bn.j0] at H
   by_cases c4:aaV=true
   ·subst c4
    rw [if_pos rfl] at H;try dsimp only at H
    simp only [Option.some.injEq,Prod.mk.injEq] at H
    obtain ⟨rfl,rfl⟩:=H
    go_wp2
    go_ret2
    exact ⟨_,zS,by first|exact Kd.jR _ _ _ _ _|exact Kd.oW _ _ _ _ _|exact Kd.nP _ _ _ _ _|exact Kd.oZ _ _ _ _ _|exact Kd.oL _ _ _ _ _,zB⟩
   ·replace c4:=Bool.eq_false_iff.mpr c4
    subst c4
    rw [if_neg (show ¬ (false=true) by decide)] at H;try dsimp only at H
    have H':=aj.mk H
    clear H
    go_wp2
    go_loopg [5,6] kj1 (fun kq v5 v6 w'=>∃ (mg:List Int) (wU:Int),v6 = .int .i64 wU∧aj (bn.l0 kq a0 ((wrap64 ((wrap64 ((wrap64 (3*a0))+65536)) - 1)) / 65536) mg wU=some (r1,r2))∧aj (kq≤kj1)∧aj (Kd.R (Kd.int .i64) 2 w' w.heap.size (fun _=>True) v5 mg)∧aj (Below w.heap.size w w'))
    case atStart=>exact ⟨(([]:List Int)),(wrap64 (-((wrap64 ((wrap64 ((wrap64 (3*a0))+65536)) - 1)) / 65536))),zT,H',⟨Nat.le_refl _⟩,⟨by first|exact Kd.jR _ _ _ _ _|exact Kd.oW _ _ _ _ _|exact Kd.nP _ _ _ _ _|exact Kd.oZ _ _ _ _ _|exact Kd.oL _ _ _ _ _⟩,⟨zB⟩⟩
    case round =>
     clear H'
     obtain ⟨mg,wU,rfl,HA,HK2,wB,HB⟩:=hrel
     cases gk with
     | zero=>exact absurd HA.out (by simp [bn.l0])
     | succ k2 =>
      have H:=HA.out
      clear HA
      simp only [bn.l0] at H
      by_cases c5:wU≤((wrap64 ((wrap64 ((wrap64 (3*a0))+65536)) - 1)) / 65536)
      ·rw [if_pos c5] at H
       have iw:=decide_eq_true c5
       clear c5
       replace H:=zO H
       obtain ⟨ahW,A6,H⟩:=H
       try dsimp only at H
       by_cases c7:mg.length < 17592186044416
       ·rw [if_pos c7] at H
        have awd:=aj.mk c7
        clear c7
        obtain ⟨as4,agZ⟩:∃ y_:List Int,y_=(mg ++ [ahW]):=⟨_,rfl⟩
        replace H:(bn.l0 k2 a0 ((wrap64 ((wrap64 ((wrap64 (3*a0))+65536)) - 1)) / 65536) as4 (wrap64 (wU+1)))=some (r1,r2):=by first|(rw [agZ];with_reducible exact H)|(have H2_:=(Option.bind_some _ _).symm.trans H;rw [agZ];with_reducible exact H2_)|(have H2_:=(Option.bind_some _ _).symm.trans H;with_reducible exact H2_)|with_reducible exact H|(rw [agZ];exact H)|exact H
        have au5:=aj.mk agZ
        clear agZ
        have H':=aj.mk H
        clear H
        go_wp2_with (first|((with_reducible refine ay (f:=137) rfl ?_);refine aH (some 28) rfl rfl Tryz.func137 (by kernel_rfl) rfl #[.int .i64 wU,.int .i64 a0] rfl zL ?_;(with_reducible refine (kV.calls k2 wU a0 ahW _ A6.out).mono ?_);rintro e w8 ⟨rfl,hb⟩;refine ⟨_,rfl,?_⟩;obtain ⟨wB,HB⟩:=zA2 (Kd.jA (by (with_reducible repeat (first|apply Kd.aJ|apply Kd.aK|apply Kd.aU));exact wB.out) hb) (ak zB hb);(try clear hb))|((with_reducible refine jG (b := .append) (xs := #[.tmp 25,.tmp 29]) rfl ?_);at_builtin;refine Kd.kJ (Kd.int .i64) (w0:=w) w.heap.size rfl (.tmp 25) (.tmp 29) 44 2 (.int .i64 0) 8 rfl Tryz.underlying44 vC rfl (by decide) (by omega) u5 mg ahW [.int .i64 ahW] (fun _=>True) (fun _=>False) rfl rfl ?aP (fun _ hk=>hk.elim) ?aF ?aO ?aB ?aS ?aL ?_;(case aP=>exact rfl);(case aB=>exact zB);(case aF=>exact (fun _ _=>trivial));(case aO=>exact (by (with_reducible repeat (first|apply Kd.aJ|apply Kd.aK|apply Kd.aU));exact wB.out));(case aS=>exact (bJ zB));(case aL=>have:=awd.out;omega);intro aBb w9 ho hb hg hat;rw [← au5.out] at ho;obtain ⟨HB,au6⟩:=zA2 hb ho;clear ho hb hg hat))
        go_roundg k2
        case measure=>have:=HJ1.out;have:=HK2.out;omega
        case rel=>exact ⟨(as4),(wrap64 (wU+1)),zT,H',⟨by have:=HJ1.out;have:=HK2.out;omega⟩,⟨by (with_reducible repeat (first|apply Kd.aJ|apply Kd.aK|apply Kd.aU));exact au6.out⟩,⟨zB⟩⟩
       ·rw [if_neg c7] at H
        exact absurd H (by simp)
      ·rw [if_neg c5] at H
       have iw:=decide_eq_false c5
       clear c5
       simp only [Option.some.injEq,Prod.mk.injEq] at H
       obtain ⟨rfl,rfl⟩:=H
       go_wp2
       go_ret2
       exact ⟨_,zS,by (with_reducible repeat (first|apply Kd.aJ|apply Kd.aK|apply Kd.aU));exact wB.out,zB⟩
end Go.Proofs.YtpondkggmcmpfaaGreatDoor.QA
namespace Go.Proofs.YtpondkggmcmpfaaGreatDoor.QA
open Go.Proofs.YtpondkggmcmpfaaGreatDoor.T
open Go.RowKit Go.Proofs.YtpondkggmcmpfaaGreatDoorW.PrintWords Go.Proofs.YtpondkggmcmpfaaGreatDoorW.PrintLast Go.Proofs.YtpondkggmcmpfaaGreatDoorW.PrintMore
attribute [local go_sem] dZ dS dU fK fM
set_option linter.unusedVariables false
set_option linter.unusedSimpArgs false
mutual
def fG.j0:Nat→List Int→Int→Bool→Option (List Int × Int)
 | 0,_,_,_=>none
 | k+1,x0,x4,x26=>if x26=true then (some (([]:List Int),7)) else (fG.l0 k x4 ([]:List Int) x0 (x0.length:Int) 0)
def fG.l0:Nat→Int→List Int→List Int→Int→Int→Option (List Int × Int)
 | 0,_,_,_,_,_=>none
 | k+1,x4,x5,x27,x28,x29=>if x29 < x28 then (if 0≤x29 then (if x29 < (x27.length:Int) then ((aX.f k (rd x27 x29) 1073741824 x4).bind fun ahX=>(if x5.length < 17592186044416 then (fG.l0 k x4 (x5 ++ [ahX]) x27 x28 (wrap64 (x29+1))) else (none))) else (none)) else (none)) else (some (x5,0))
end
def fG.f (k:Nat) (l0:List Int):Option (List Int × Int):=(kF.f k l0).bind fun t193=>(if ((l0.length:Int) % 2)=0 then (fG.j0 k l0 t193 true) else (if (l0.length:Int) > 1024 then (fG.j0 k l0 t193 true) else (if t193 < 1 then (fG.j0 k l0 t193 true) else (fG.j0 k l0 t193 (decide (t193 > 1048576))))))
set_option maxHeartbeats 8000000 in
set_option maxRecDepth 100000 in
theorem fG.calls (k:Nat) (A0:Option Addr) (c0:Nat) (l0 r1:List Int) (r2:Int) (w:World) (hr0:Kd.C (Kd.int .i64) w A0 l0.length l0) (hc0:l0.length≤c0) (h:fG.f k l0=some (r1,r2)) :
  Calls Tryz.prog 127 #[.slice A0 l0.length c0] w fun e w'=>∃ v0_:Value,e = .returned (.tuple #[v0_,.int .i64 r2])∧Kd.R (Kd.int .i64) 2 w' w.heap.size (fun _=>True) v0_ r1∧Below w.heap.size w w':=by
 have HR0:=aj.mk hr0
 have HC0:=aj.mk hc0
 clear hr0 hc0
 have HB:=aj.mk (Below.refl w.heap.size w)
 have H:=h
 clear h
 unfold fG.f at H
 replace H:=zO H
 obtain ⟨t193,A2,H⟩:=H
 try dsimp only at H
 have HC3:=aj.mk H
 clear H
 go_enter Tryz.func127,Tryz.ntmps127
 go_upto_region 2 with (first|((with_reducible refine ay (f:=138) rfl ?_);refine aH (some 9) rfl rfl Tryz.func138 (by kernel_rfl) rfl #[.slice A0 l0.length c0] rfl zL ?_;(with_reducible refine (kF.calls k _ _ l0 t193 _ ?iI ?iJ A2.out).mono ?_);(case iI=>repeat (first|exact HR0.out|(with_reducible refine Kd.jh ?_ _)|(with_reducible refine Kd.jE ?_ _)|(with_reducible refine Kd.kN ?_)));(case iJ=>exact HC0.out);rintro e w4 ⟨rfl,hb⟩;refine ⟨_,rfl,?_⟩;replace HB:=aj.mk (ak zB hb);(try clear hb)))
 (try simp only [Act.put,List.setIfInBounds_toArray,List.set_cons_zero,List.set_cons_succ])
 go_cut [26] (fun v26 wc=>∃ (kq:Nat) (aaW:Bool),v26 = .bool aaW∧aj (fG.j0 kq l0 t193 aaW=some (r1,r2))∧aj (kq≤k)∧aj (Below w.heap.size w wc))
 case first =>
  have H:=HC3.out
  clear HC3
  by_cases c5:((l0.length:Int) % 2)=0
  ·rw [if_pos c5] at H
   have iw:(((l0.length:Int) % 2) == 0)=true:=beq_iff_eq.mpr c5
   have abo:(((l0.length:Int) % 2) != 0)=false:=bne_eq_false_iff_eq.mpr c5
   clear c5
   (first|rw [iw]|(simp only [bY,cZ];rw [iw])|skip)
   have H':=aj.mk H
   clear H
   go_wp2
   go_meet
   case rel=>exact ⟨_,(true),zT,H',⟨by first|omega|exact Nat.le_refl _⟩,⟨zB⟩⟩
  ·rw [if_neg c5] at H
   have iw:(((l0.length:Int) % 2) == 0)=false:=beq_eq_false_iff_ne.mpr c5
   have abo:(((l0.length:Int) % 2) != 0)=true:=bne_iff_ne.mpr c5
   (first|rw [iw]|(simp only [bY,cZ];rw [iw])|skip)
   by_cases c6:(l0.length:Int) > 1024
   ·rw [if_pos c6] at H
    have gQ:=decide_eq_true c6
    have uw:decide (1024 < l0.length)=true:=decide_eq_true (by omega)
    clear c6
    have H':=aj.mk H
    clear H
    go_wp2
    go_meet
    case rel=>exact ⟨_,(true),zT,H',⟨by first|omega|exact Nat.le_refl _⟩,⟨zB⟩⟩
   ·rw [if_neg c6] at H
    have gQ:=decide_eq_false c6
    have uw:decide (1024 < l0.length)=false:=decide_eq_false (by omega)
    clear c6
    by_cases c7:t193 < 1
    ·rw [if_pos c7] at H
     have jc:=decide_eq_true c7
     clear c7
     have H':=aj.mk H
     clear H
     go_wp2
     go_meet
     case rel=>exact ⟨_,(true),zT,H',⟨by first|omega|exact Nat.le_refl _⟩,⟨zB⟩⟩
    ·rw [if_neg c7] at H
     have jc:=decide_eq_false c7
     clear c7
     have H':=aj.mk H
     clear H
     go_wp2
     go_meet
     case rel=>exact ⟨_,(decide (t193 > 1048576)),zT,H',⟨by first|omega|exact Nat.le_refl _⟩,⟨zB⟩⟩
 case rest =>
  clear HC3
  obtain ⟨kq,aaW,rfl,HA,HJ2,HB⟩:=hcut
  cases kq with
  | zero=>exact absurd HA.out (by simp [fG.j0])
  | succ kj2 =>
   have H:=HA.out
   clear HA
   simp only [fG.j0] at H
   by_cases c8:aaW=true
   ·subst c8
    rw [if_pos rfl] at H;try dsimp only at H
    simp only [Option.some.injEq,Prod.mk.injEq] at H
    obtain ⟨rfl,rfl⟩:=H
    go_wp2
    go_ret2
    exact ⟨_,zS,by first|exact Kd.jR _ _ _ _ _|exact Kd.oW _ _ _ _ _|exact Kd.nP _ _ _ _ _|exact Kd.oZ _ _ _ _ _|exact Kd.oL _ _ _ _ _,zB⟩
   ·replace c8:=Bool.eq_false_iff.mpr c8
    subst c8
    rw [if_neg (show ¬ (false=true) by decide)] at H;try dsimp only at H
    have H':=aj.mk H
    clear H
    go_wp2
    go_loopg [5,29] kj2 (fun kq v5 v29 w'=>∃ (mg:List Int) (lW:Int),v29 = .int .i64 lW∧aj (fG.l0 kq t193 mg l0 (l0.length:Int) lW=some (r1,r2))∧aj (kq≤kj2)∧aj (Kd.R (Kd.int .i64) 2 w' w.heap.size (fun _=>True) v5 mg)∧aj (Below w.heap.size w w'))
    case atStart=>exact ⟨(([]:List Int)),(0),zT,H',⟨Nat.le_refl _⟩,⟨by first|exact Kd.jR _ _ _ _ _|exact Kd.oW _ _ _ _ _|exact Kd.nP _ _ _ _ _|exact Kd.oZ _ _ _ _ _|exact Kd.oL _ _ _ _ _⟩,⟨zB⟩⟩
    case round =>
     clear H'
     obtain ⟨mg,lW,rfl,HA,HK2,wB,HB⟩:=hrel
     cases gk with
     | zero=>exact absurd HA.out (by simp [fG.l0])
     | succ k2 =>
      have H:=HA.out
      clear HA
      simp only [fG.l0] at H
      by_cases c9:lW < (l0.length:Int)
      ·rw [if_pos c9] at H
       have pz:=decide_eq_true c9
       clear c9
       by_cases c10:0≤lW
       ·rw [if_pos c10] at H
        have pX:=decide_eq_true c10
        clear c10
        by_cases c11:lW < (l0.length:Int)
        ·rw [if_pos c11] at H
         have iH:=decide_eq_true c11
         clear c11
         replace H:=zO H
         obtain ⟨ahX,A12,H⟩:=H
         try dsimp only at H
         by_cases c13:mg.length < 17592186044416
         ·rw [if_pos c13] at H
          have au7:=aj.mk c13
          clear c13
          obtain ⟨as5,ag0⟩:∃ y_:List Int,y_=(mg ++ [ahX]):=⟨_,rfl⟩
          replace H:(fG.l0 k2 t193 as5 l0 (l0.length:Int) (wrap64 (lW+1)))=some (r1,r2):=by first|(rw [ag0];with_reducible exact H)|(have H2_:=(Option.bind_some _ _).symm.trans H;rw [ag0];with_reducible exact H2_)|(have H2_:=(Option.bind_some _ _).symm.trans H;with_reducible exact H2_)|with_reducible exact H|(rw [ag0];exact H)|exact H
          have au8:=aj.mk ag0
          clear ag0
          have H':=aj.mk H
          clear H
          have apX:0≤(lW:Int):=of_decide_eq_true (by first|(with_reducible assumption)|assumption)
          have apY:lW < (l0.length:Int):=of_decide_eq_true (by first|(with_reducible assumption)|assumption)
          obtain ⟨aAu,awe,ahY⟩:=Kd.jF HR0.out lW apX apY
          cases awe
          replace ahY:=(HB.out.cell (World.block_lt_of_cell? w _ ahY)).trans ahY
          replace apX:=eq_true apX
          replace apY:=eq_true apY
          go_wp2_with (first|((with_reducible refine ay (f:=130) rfl ?_);refine aH (some 36) rfl rfl Tryz.func130 (by kernel_rfl) rfl #[.int .i64 (rd l0 lW),.int .i64 1073741824,.int .i64 t193] rfl zL ?_;(with_reducible refine (aX.calls k2 (rd l0 lW) 1073741824 t193 ahX _ A12.out).mono ?_);rintro e w' ⟨rfl,⟨nd,rfl⟩⟩;refine ⟨_,rfl,?_⟩)|((with_reducible refine jG (b := .append) (xs := #[.tmp 33,.tmp 37]) rfl ?_);(try (refine kK (by rfl) ?_;dsimp only));at_builtin;refine Kd.kJ (Kd.int .i64) (w0:=w) w.heap.size rfl (.tmp 33) (.tmp 37) 44 2 (.int .i64 0) 8 rfl Tryz.underlying44 vC rfl (by decide) (by omega) u5 mg ahX [.int .i64 ahX] (fun _=>True) (fun _=>False) rfl rfl ?aP (fun _ hk=>hk.elim) ?aF ?aO ?aB ?aS ?aL ?_;(case aP=>exact rfl);(case aB=>exact zB);(case aF=>exact (fun _ _=>trivial));(case aO=>exact (by (with_reducible repeat (first|apply Kd.aJ|apply Kd.aK|apply Kd.aU));exact wB.out));(case aS=>exact (bJ zB));(case aL=>have:=au7.out;omega);intro aBd w14 ho hb hg hat;rw [← au8.out] at ho;obtain ⟨HB,au9⟩:=zA2 hb ho;clear ho hb hg hat))
          go_roundg k2
          case measure=>have:=HJ2.out;have:=HK2.out;omega
          case rel=>exact ⟨(as5),(wrap64 (lW+1)),zT,H',⟨by have:=HJ2.out;have:=HK2.out;omega⟩,⟨by (with_reducible repeat (first|apply Kd.aJ|apply Kd.aK|apply Kd.aU));exact au9.out⟩,⟨zB⟩⟩
         ·rw [if_neg c13] at H
          exact absurd H (by simp)
        ·rw [if_neg c11] at H
         exact absurd H (by simp)
       ·rw [if_neg c10] at H
        exact absurd H (by simp)
      ·rw [if_neg c9] at H
       have pz:=decide_eq_false c9
       clear c9
       simp only [Option.some.injEq,Prod.mk.injEq] at H
       obtain ⟨rfl,rfl⟩:=H
       go_wp2
       go_ret2
       exact ⟨_,zS,by (with_reducible repeat (first|apply Kd.aJ|apply Kd.aK|apply Kd.aU));exact wB.out,zB⟩
end Go.Proofs.YtpondkggmcmpfaaGreatDoor.QA
namespace Go.Proofs.YtpondkggmcmpfaaGreatDoor.QA
open Go.Proofs.YtpondkggmcmpfaaGreatDoor.T
open Go.RowKit Go.Proofs.YtpondkggmcmpfaaGreatDoorW.PrintWords Go.Proofs.YtpondkggmcmpfaaGreatDoorW.PrintLast Go.Proofs.YtpondkggmcmpfaaGreatDoorW.PrintMore
attribute [local go_sem] dZ dS dU fK fM
set_option linter.unusedVariables false
set_option linter.unusedSimpArgs false
def lM.f (a0 a1 a2:Int):Option (Bool):=if a0≥1 then (if a0≤65536 then (if a1≥1 then (if a1≤65536 then (if a2=1 then (some (decide ((wrap64 ((wrap64 (a0*a1))*a2))≤268435456))) else (if a2=3 then (some (decide ((wrap64 ((wrap64 (a0*a1))*a2))≤268435456))) else (some false))) else (some false)) else (some false)) else (some false)) else (some false)
set_option maxHeartbeats 8000000 in
set_option maxRecDepth 100000 in
theorem lM.calls (a0 a1 a2:Int) (r:Bool) (w:World) (h:lM.f a0 a1 a2=some r) :
  Calls Tryz.prog 54 #[.int .i64 a0,.int .i64 a1,.int .i64 a2] w fun e w'=>e = .returned (.bool r)∧dw w w':=by
 have H:=h
 clear h
 unfold lM.f at H
 by_cases c4:a0≥1
 ·rw [if_pos c4] at H
  have fE:=decide_eq_true c4
  clear c4
  by_cases c5:a0≤65536
  ·rw [if_pos c5] at H
   have iw:=decide_eq_true c5
   clear c5
   by_cases c6:a1≥1
   ·rw [if_pos c6] at H
    have gQ:=decide_eq_true c6
    clear c6
    by_cases c7:a1≤65536
    ·rw [if_pos c7] at H
     have jc:=decide_eq_true c7
     clear c7
     by_cases c8:a2=1
     ·rw [if_pos c8] at H
      have uy:(a2 == 1)=true:=beq_iff_eq.mpr c8
      have abd:(a2 != 1)=false:=bne_eq_false_iff_eq.mpr c8
      clear c8
      obtain rfl:=Option.some.inj H
      go_enter Tryz.func54,Tryz.ntmps54
      go_wp2
      go_ret
      exact ⟨by first|rfl|(simp;done)|(simp [*];done)|(simp [Int.tdiv_eq_ediv_of_nonneg (show (0:Int)≤268435456 by decide)];done),zW⟩
     ·rw [if_neg c8] at H
      have uy:(a2 == 1)=false:=beq_eq_false_iff_ne.mpr c8
      have abd:(a2 != 1)=true:=bne_iff_ne.mpr c8
      by_cases c9:a2=3
      ·rw [if_pos c9] at H
       have pz:(a2 == 3)=true:=beq_iff_eq.mpr c9
       have abe:(a2 != 3)=false:=bne_eq_false_iff_eq.mpr c9
       clear c9
       obtain rfl:=Option.some.inj H
       go_enter Tryz.func54,Tryz.ntmps54
       go_wp2
       go_ret
       exact ⟨by first|rfl|(simp;done)|(simp [*];done)|(simp [Int.tdiv_eq_ediv_of_nonneg (show (0:Int)≤268435456 by decide)];done),zW⟩
      ·rw [if_neg c9] at H
       have pz:(a2 == 3)=false:=beq_eq_false_iff_ne.mpr c9
       have abe:(a2 != 3)=true:=bne_iff_ne.mpr c9
       obtain rfl:=Option.some.inj H
       go_enter Tryz.func54,Tryz.ntmps54
       go_wp2
       go_ret
       exact ⟨by first|rfl|(simp;done)|(simp [*];done)|(simp [Int.tdiv_eq_ediv_of_nonneg (show (0:Int)≤268435456 by decide)];done),zW⟩
    ·rw [if_neg c7] at H
     have jc:=decide_eq_false c7
     clear c7
     obtain rfl:=Option.some.inj H
     go_enter Tryz.func54,Tryz.ntmps54
     go_wp2
     go_ret
     exact ⟨by first|rfl|(simp;done)|(simp [*];done)|(simp [Int.tdiv_eq_ediv_of_nonneg (show (0:Int)≤268435456 by decide)];done),zW⟩
   ·rw [if_neg c6] at H
    have gQ:=decide_eq_false c6
    clear c6
    obtain rfl:=Option.some.inj H
    go_enter Tryz.func54,Tryz.ntmps54
    go_wp2
    go_ret
    exact ⟨by first|rfl|(simp;done)|(simp [*];done)|(simp [Int.tdiv_eq_ediv_of_nonneg (show (0:Int)≤268435456 by decide)];done),zW⟩
  ·rw [if_neg c5] at H
   have iw:=decide_eq_false c5
   clear c5
   obtain rfl:=Option.some.inj H
   go_enter Tryz.func54,Tryz.ntmps54
   go_wp2
   go_ret
   exact ⟨by first|rfl|(simp;done)|(simp [*];done)|(simp [Int.tdiv_eq_ediv_of_nonneg (show (0:Int)≤268435456 by decide)];done),zW⟩
 ·rw [if_neg c4] at H
  have fE:=decide_eq_false c4
  clear c4
  obtain rfl:=Option.some.inj H
  go_enter Tryz.func54,Tryz.ntmps54
  go_wp2
  go_ret
  exact ⟨by first|rfl|(simp;done)|(simp [*];done)|(simp [Int.tdiv_eq_ediv_of_nonneg (show (0:Int)≤268435456 by decide)];done),zW⟩
def aa6.f (bf bQ kD kE:Int) (iP iW:List Int) (kM jP jZ a1 a2:Int):Option (Int × Int):=if bf=3 then (some (jP,jZ)) else (some (a1,a2))
set_option maxHeartbeats 8000000 in
set_option maxRecDepth 100000 in
theorem aa6.calls (bf bQ kD kE:Int) (ng:Option Addr) (ni:Nat) (iP:List Int) (nT:Option Addr) (nU:Nat) (iW:List Int) (kM jP jZ a1 a2 r1 r2:Int) (w:World) (yD:Kd.C (Kd.int .i64) w ng iP.length iP) (yE:iP.length≤ni) (yF:Kd.C (Kd.int .i64) w nT iW.length iW) (yG:iW.length≤nU) (h:aa6.f bf bQ kD kE iP iW kM jP jZ a1 a2=some (r1,r2)) :
  Calls Tryz.prog 55 #[.agg #[.int .i64 bf,.int .i64 bQ,.int .i64 kD,.int .i64 kE,.slice ng iP.length ni,.slice nT iW.length nU,.int .i64 kM,.int .i64 jP,.int .i64 jZ],.int .i64 a1,.int .i64 a2] w fun e w'=>e = .returned (.tuple #[.int .i64 r1,.int .i64 r2])∧Below w.heap.size w w':=by
 have arZ:=Tryz.underlying47
 have agb:=aj.mk yD
 have agc:=aj.mk yE
 clear yD yE
 have aiQ:=aj.mk yF
 have aiR:=aj.mk yG
 clear yF yG
 have HB:=aj.mk (Below.refl w.heap.size w)
 have H:=h
 clear h
 unfold aa6.f at H
 by_cases c4:bf=3
 ·rw [if_pos c4] at H
  have fE:(bf == 3)=true:=beq_iff_eq.mpr c4
  have zy:(bf != 3)=false:=bne_eq_false_iff_eq.mpr c4
  clear c4
  simp only [Option.some.injEq,Prod.mk.injEq] at H
  obtain ⟨rfl,rfl⟩:=H
  go_enter Tryz.func55,Tryz.ntmps55
  go_wp2_with (first|((with_reducible refine bD (N:=3) rfl ?_);refine bC zR (N:=3) zR (cs := #[.int .i64 bf,.int .i64 bQ,.int .i64 kD,.int .i64 kE,.slice ng iP.length ni,.slice nT iW.length nU,.int .i64 kM,.int .i64 jP,.int .i64 jZ]) (t:=47) zG ?_;intro ag1 hg w5 hbox hb;obtain ⟨HB,su,ag2,ag3⟩:=zA4 (ak zB hb) hbox (zg hg zB) (zg hg zB);clear hb hbox hg;obtain ⟨_,_,_,_,_,_,_,_,_⟩:=zC9 su.out;obtain ⟨_,_,_,_,_,_,_,_,_⟩:=zF9 su.out))
  repeat (go_quiet (first|((with_reducible refine bD (N:=3) rfl ?_);refine bC zR (N:=3) zR (cs := #[.int .i64 bf,.int .i64 bQ,.int .i64 kD,.int .i64 kE,.slice ng iP.length ni,.slice nT iW.length nU,.int .i64 kM,.int .i64 jP,.int .i64 jZ]) (t:=47) zG ?_;intro ag1 hg w5 hbox hb;obtain ⟨HB,su,ag2,ag3⟩:=zA4 (ak zB hb) hbox (zg hg zB) (zg hg zB);clear hb hbox hg;obtain ⟨_,_,_,_,_,_,_,_,_⟩:=zC9 su.out;obtain ⟨_,_,_,_,_,_,_,_,_⟩:=zF9 su.out));try go_wp2_with (first|((with_reducible refine bD (N:=3) rfl ?_);refine bC zR (N:=3) zR (cs := #[.int .i64 bf,.int .i64 bQ,.int .i64 kD,.int .i64 kE,.slice ng iP.length ni,.slice nT iW.length nU,.int .i64 kM,.int .i64 jP,.int .i64 jZ]) (t:=47) zG ?_;intro ag1 hg w5 hbox hb;obtain ⟨HB,su,ag2,ag3⟩:=zA4 (ak zB hb) hbox (zg hg zB) (zg hg zB);clear hb hbox hg;obtain ⟨_,_,_,_,_,_,_,_,_⟩:=zC9 su.out;obtain ⟨_,_,_,_,_,_,_,_,_⟩:=zF9 su.out)))
  go_ret2
  exact ⟨zS,zB⟩
 ·rw [if_neg c4] at H
  have fE:(bf == 3)=false:=beq_eq_false_iff_ne.mpr c4
  have zy:(bf != 3)=true:=bne_iff_ne.mpr c4
  simp only [Option.some.injEq,Prod.mk.injEq] at H
  obtain ⟨rfl,rfl⟩:=H
  go_enter Tryz.func55,Tryz.ntmps55
  go_wp2_with (first|((with_reducible refine bD (N:=3) rfl ?_);refine bC zR (N:=3) zR (cs := #[.int .i64 bf,.int .i64 bQ,.int .i64 kD,.int .i64 kE,.slice ng iP.length ni,.slice nT iW.length nU,.int .i64 kM,.int .i64 jP,.int .i64 jZ]) (t:=47) zG ?_;intro ag1 hg w7 hbox hb;obtain ⟨HB,su,ag2,ag3⟩:=zA4 (ak zB hb) hbox (zg hg zB) (zg hg zB);clear hb hbox hg;obtain ⟨_,_,_,_,_,_,_,_,_⟩:=zC9 su.out;obtain ⟨_,_,_,_,_,_,_,_,_⟩:=zF9 su.out))
  repeat (go_quiet (first|((with_reducible refine bD (N:=3) rfl ?_);refine bC zR (N:=3) zR (cs := #[.int .i64 bf,.int .i64 bQ,.int .i64 kD,.int .i64 kE,.slice ng iP.length ni,.slice nT iW.length nU,.int .i64 kM,.int .i64 jP,.int .i64 jZ]) (t:=47) zG ?_;intro ag1 hg w7 hbox hb;obtain ⟨HB,su,ag2,ag3⟩:=zA4 (ak zB hb) hbox (zg hg zB) (zg hg zB);clear hb hbox hg;obtain ⟨_,_,_,_,_,_,_,_,_⟩:=zC9 su.out;obtain ⟨_,_,_,_,_,_,_,_,_⟩:=zF9 su.out));try go_wp2_with (first|((with_reducible refine bD (N:=3) rfl ?_);refine bC zR (N:=3) zR (cs := #[.int .i64 bf,.int .i64 bQ,.int .i64 kD,.int .i64 kE,.slice ng iP.length ni,.slice nT iW.length nU,.int .i64 kM,.int .i64 jP,.int .i64 jZ]) (t:=47) zG ?_;intro ag1 hg w7 hbox hb;obtain ⟨HB,su,ag2,ag3⟩:=zA4 (ak zB hb) hbox (zg hg zB) (zg hg zB);clear hb hbox hg;obtain ⟨_,_,_,_,_,_,_,_,_⟩:=zC9 su.out;obtain ⟨_,_,_,_,_,_,_,_,_⟩:=zF9 su.out)))
  go_ret2
  exact ⟨zS,zB⟩
def dQ.j0:Nat→Int→Int→Int→Bool→Option (Bool)
 | 0,_,_,_,_=>none
 | k+1,x0,x1,x2,x20=>if x20=true then (some false) else (if x2=1 then (if x2=0 then (none) else (some (decide ((wrap64 (x0*x1))≤(wrap64 ((268435456:Int) / x2)))))) else (if x2=3 then (if x2=0 then (none) else (some (decide ((wrap64 (x0*x1))≤(wrap64 ((268435456:Int) / x2)))))) else (some false)))
def dQ.f (k:Nat) (a0 a1 a2:Int):Option (Bool):=if a0 < 1 then (dQ.j0 k a0 a1 a2 true) else (if a0 > 65536 then (dQ.j0 k a0 a1 a2 true) else (if a1 < 1 then (dQ.j0 k a0 a1 a2 true) else (dQ.j0 k a0 a1 a2 (decide (a1 > 65536)))))
set_option maxHeartbeats 8000000 in
set_option maxRecDepth 100000 in
theorem dQ.calls (k:Nat) (a0 a1 a2:Int) (r:Bool) (w:World) (h:dQ.f k a0 a1 a2=some r) :
  Calls Tryz.prog 56 #[.int .i64 a0,.int .i64 a1,.int .i64 a2] w fun e w'=>e = .returned (.bool r)∧dw w w':=by
 have H:=h
 clear h
 unfold dQ.f at H
 have HC4:=aj.mk H
 clear H
 go_enter Tryz.func56,Tryz.ntmps56
 go_upto_region 1 with (fail)
 go_cut [20] (fun v20 wc=>∃ (kq:Nat) (ajb:Bool),v20 = .bool ajb∧aj (dQ.j0 kq a0 a1 a2 ajb=some r)∧aj (kq≤k)∧dw w wc)
 case first =>
  have H:=HC4.out
  clear HC4
  by_cases c5:a0 < 1
  ·rw [if_pos c5] at H
   have iw:=decide_eq_true c5
   clear c5
   (first|rw [iw]|(simp only [bY,cZ];rw [iw])|skip)
   have H':=aj.mk H
   clear H
   go_wp2
   go_meet
   case rel=>exact ⟨_,(true),zT,H',⟨by first|omega|exact Nat.le_refl _⟩,zW⟩
  ·rw [if_neg c5] at H
   have iw:=decide_eq_false c5
   clear c5
   (first|rw [iw]|(simp only [bY,cZ];rw [iw])|skip)
   by_cases c6:a0 > 65536
   ·rw [if_pos c6] at H
    have gQ:=decide_eq_true c6
    clear c6
    have H':=aj.mk H
    clear H
    go_wp2
    go_meet
    case rel=>exact ⟨_,(true),zT,H',⟨by first|omega|exact Nat.le_refl _⟩,zW⟩
   ·rw [if_neg c6] at H
    have gQ:=decide_eq_false c6
    clear c6
    by_cases c7:a1 < 1
    ·rw [if_pos c7] at H
     have jc:=decide_eq_true c7
     clear c7
     have H':=aj.mk H
     clear H
     go_wp2
     go_meet
     case rel=>exact ⟨_,(true),zT,H',⟨by first|omega|exact Nat.le_refl _⟩,zW⟩
    ·rw [if_neg c7] at H
     have jc:=decide_eq_false c7
     clear c7
     have H':=aj.mk H
     clear H
     go_wp2
     go_meet
     case rel=>exact ⟨_,(decide (a1 > 65536)),zT,H',⟨by first|omega|exact Nat.le_refl _⟩,zW⟩
 case rest =>
  clear HC4
  obtain ⟨kq,ajb,rfl,HA,HJ3,⟨mc3,rfl⟩⟩:=hcut
  cases kq with
  | zero=>exact absurd HA.out (by simp [dQ.j0])
  | succ kj3 =>
   have H:=HA.out
   clear HA
   simp only [dQ.j0] at H
   by_cases c8:ajb=true
   ·subst c8
    rw [if_pos rfl] at H;try dsimp only at H
    obtain rfl:=Option.some.inj H
    go_wp2
    go_ret
    exact ⟨by first|rfl|(simp;done)|(simp [*];done)|(simp [Int.tdiv_eq_ediv_of_nonneg (show (0:Int)≤268435456 by decide)];done),zW⟩
   ·replace c8:=Bool.eq_false_iff.mpr c8
    subst c8
    rw [if_neg (show ¬ (false=true) by decide)] at H;try dsimp only at H
    by_cases c9:a2=1
    ·rw [if_pos c9] at H
     have pz:(a2 == 1)=true:=beq_iff_eq.mpr c9
     have abe:(a2 != 1)=false:=bne_eq_false_iff_eq.mpr c9
     clear c9
     by_cases c10:a2=0
     ·rw [if_pos c10] at H
      exact absurd H (by simp)
     ·rw [if_neg c10] at H
      have pX:(a2 == 0)=false:=beq_eq_false_iff_ne.mpr c10
      have amu:(a2 != 0)=true:=bne_iff_ne.mpr c10
      obtain rfl:=Option.some.inj H
      go_wp2
      go_ret
      exact ⟨by first|rfl|(simp;done)|(simp [*];done)|(simp [Int.tdiv_eq_ediv_of_nonneg (show (0:Int)≤268435456 by decide)];done),zW⟩
    ·rw [if_neg c9] at H
     have pz:(a2 == 1)=false:=beq_eq_false_iff_ne.mpr c9
     have abe:(a2 != 1)=true:=bne_iff_ne.mpr c9
     by_cases c11:a2=3
     ·rw [if_pos c11] at H
      have iH:(a2 == 3)=true:=beq_iff_eq.mpr c11
      have wF:(a2 != 3)=false:=bne_eq_false_iff_eq.mpr c11
      clear c11
      by_cases c12:a2=0
      ·rw [if_pos c12] at H
       exact absurd H (by simp)
      ·rw [if_neg c12] at H
       have aal:(a2 == 0)=false:=beq_eq_false_iff_ne.mpr c12
       have aqN:(a2 != 0)=true:=bne_iff_ne.mpr c12
       obtain rfl:=Option.some.inj H
       go_wp2
       go_ret
       exact ⟨by first|rfl|(simp;done)|(simp [*];done)|(simp [Int.tdiv_eq_ediv_of_nonneg (show (0:Int)≤268435456 by decide)];done),zW⟩
     ·rw [if_neg c11] at H
      have iH:(a2 == 3)=false:=beq_eq_false_iff_ne.mpr c11
      have wF:(a2 != 3)=true:=bne_iff_ne.mpr c11
      obtain rfl:=Option.some.inj H
      go_wp2
      go_ret
      exact ⟨by first|rfl|(simp;done)|(simp [*];done)|(simp [Int.tdiv_eq_ediv_of_nonneg (show (0:Int)≤268435456 by decide)];done),zW⟩
def bF.f (a0:Int):Option (Bool):=if a0≥1 then (some (decide (a0≤65536))) else (some false)
set_option maxHeartbeats 8000000 in
set_option maxRecDepth 100000 in
theorem bF.calls (a0:Int) (r:Bool) (w:World) (h:bF.f a0=some r) :
  Calls Tryz.prog 92 #[.int .i64 a0] w fun e w'=>e = .returned (.bool r)∧dw w w':=by
 have H:=h
 clear h
 unfold bF.f at H
 by_cases c2:a0≥1
 ·rw [if_pos c2] at H
  have mZ:=decide_eq_true c2
  clear c2
  obtain rfl:=Option.some.inj H
  go_enter Tryz.func92,Tryz.ntmps92
  go_wp2
  go_ret
  exact ⟨by first|rfl|(simp;done)|(simp [*];done)|(simp [Int.tdiv_eq_ediv_of_nonneg (show (0:Int)≤268435456 by decide)];done),zW⟩
 ·rw [if_neg c2] at H
  have mZ:=decide_eq_false c2
  clear c2
  obtain rfl:=Option.some.inj H
  go_enter Tryz.func92,Tryz.ntmps92
  go_wp2
  go_ret
  exact ⟨by first|rfl|(simp;done)|(simp [*];done)|(simp [Int.tdiv_eq_ediv_of_nonneg (show (0:Int)≤268435456 by decide)];done),zW⟩
def iG.f (a0:Int):Option (Bool):=if a0≥1 then (some (decide (a0≤65536))) else (some false)
set_option maxHeartbeats 8000000 in
set_option maxRecDepth 100000 in
theorem iG.calls (a0:Int) (r:Bool) (w:World) (h:iG.f a0=some r) :
  Calls Tryz.prog 113 #[.int .i64 a0] w fun e w'=>e = .returned (.bool r)∧dw w w':=by
 have H:=h
 clear h
 unfold iG.f at H
 by_cases c2:a0≥1
 ·rw [if_pos c2] at H
  have mZ:=decide_eq_true c2
  clear c2
  obtain rfl:=Option.some.inj H
  go_enter Tryz.func113,Tryz.ntmps113
  go_wp2
  go_ret
  exact ⟨by first|rfl|(simp;done)|(simp [*];done)|(simp [Int.tdiv_eq_ediv_of_nonneg (show (0:Int)≤268435456 by decide)];done),zW⟩
 ·rw [if_neg c2] at H
  have mZ:=decide_eq_false c2
  clear c2
  obtain rfl:=Option.some.inj H
  go_enter Tryz.func113,Tryz.ntmps113
  go_wp2
  go_ret
  exact ⟨by first|rfl|(simp;done)|(simp [*];done)|(simp [Int.tdiv_eq_ediv_of_nonneg (show (0:Int)≤268435456 by decide)];done),zW⟩
end Go.Proofs.YtpondkggmcmpfaaGreatDoor.QA
namespace Go.Proofs.YtpondkggmcmpfaaGreatDoor.QA
open Go.Proofs.YtpondkggmcmpfaaGreatDoor.T
open Go.RowKit Go.Proofs.YtpondkggmcmpfaaGreatDoorW.PrintWords Go.Proofs.YtpondkggmcmpfaaGreatDoorW.PrintLast Go.Proofs.YtpondkggmcmpfaaGreatDoorW.PrintMore
attribute [local go_sem] dZ dS dU fK fM
set_option linter.unusedVariables false
set_option linter.unusedSimpArgs false
def kX.f (a0 a1 a2 a3:Int):Option (Bool):=if a0≥0 then (if a0≤2 then (if a1≥1 then (if a1≤65536 then (if a2≥1 then (if a2≤65536 then (if a3≥0 then (some (decide (a3 < a2))) else (some false)) else (some false)) else (some false)) else (some false)) else (some false)) else (some false)) else (some false)
set_option maxHeartbeats 8000000 in
set_option maxRecDepth 100000 in
theorem kX.calls (a0 a1 a2 a3:Int) (r:Bool) (w:World) (h:kX.f a0 a1 a2 a3=some r) :
  Calls Tryz.prog 139 #[.int .i64 a0,.int .i64 a1,.int .i64 a2,.int .i64 a3] w fun e w'=>e = .returned (.bool r)∧dw w w':=by
 have H:=h
 clear h
 unfold kX.f at H
 by_cases c5:a0≥0
 ·rw [if_pos c5] at H
  have iw:=decide_eq_true c5
  clear c5
  by_cases c6:a0≤2
  ·rw [if_pos c6] at H
   have gQ:=decide_eq_true c6
   clear c6
   by_cases c7:a1≥1
   ·rw [if_pos c7] at H
    have jc:=decide_eq_true c7
    clear c7
    by_cases c8:a1≤65536
    ·rw [if_pos c8] at H
     have uy:=decide_eq_true c8
     clear c8
     by_cases c9:a2≥1
     ·rw [if_pos c9] at H
      have pz:=decide_eq_true c9
      clear c9
      by_cases c10:a2≤65536
      ·rw [if_pos c10] at H
       have pX:=decide_eq_true c10
       clear c10
       by_cases c11:a3≥0
       ·rw [if_pos c11] at H
        have iH:=decide_eq_true c11
        clear c11
        obtain rfl:=Option.some.inj H
        go_enter Tryz.func139,Tryz.ntmps139
        go_wp2
        go_ret
        exact ⟨zT,zW⟩
       ·rw [if_neg c11] at H
        have iH:=decide_eq_false c11
        clear c11
        obtain rfl:=Option.some.inj H
        go_enter Tryz.func139,Tryz.ntmps139
        go_wp2
        go_ret
        exact ⟨zT,zW⟩
      ·rw [if_neg c10] at H
       have pX:=decide_eq_false c10
       clear c10
       obtain rfl:=Option.some.inj H
       go_enter Tryz.func139,Tryz.ntmps139
       go_wp2
       go_ret
       exact ⟨zT,zW⟩
     ·rw [if_neg c9] at H
      have pz:=decide_eq_false c9
      clear c9
      obtain rfl:=Option.some.inj H
      go_enter Tryz.func139,Tryz.ntmps139
      go_wp2
      go_ret
      exact ⟨zT,zW⟩
    ·rw [if_neg c8] at H
     have uy:=decide_eq_false c8
     clear c8
     obtain rfl:=Option.some.inj H
     go_enter Tryz.func139,Tryz.ntmps139
     go_wp2
     go_ret
     exact ⟨zT,zW⟩
   ·rw [if_neg c7] at H
    have jc:=decide_eq_false c7
    clear c7
    obtain rfl:=Option.some.inj H
    go_enter Tryz.func139,Tryz.ntmps139
    go_wp2
    go_ret
    exact ⟨zT,zW⟩
  ·rw [if_neg c6] at H
   have gQ:=decide_eq_false c6
   clear c6
   obtain rfl:=Option.some.inj H
   go_enter Tryz.func139,Tryz.ntmps139
   go_wp2
   go_ret
   exact ⟨zT,zW⟩
 ·rw [if_neg c5] at H
  have iw:=decide_eq_false c5
  clear c5
  obtain rfl:=Option.some.inj H
  go_enter Tryz.func139,Tryz.ntmps139
  go_wp2
  go_ret
  exact ⟨zT,zW⟩
def fJ.f (a0 a1 a2 a3:Int):Option (Int × Int):=if a1 > a0 then (some (wrap64 ((wrap64 ((wrap64 ((wrap64 (2*a1))*a3)) - (wrap64 ((wrap64 ((wrap64 (2*a2))+1))*a0))))+a1),wrap64 (2*a1))) else (some (wrap64 ((wrap64 ((wrap64 ((wrap64 (2*a1))*a3)) - (wrap64 ((wrap64 ((wrap64 (2*a2))+1))*a0))))+a1),wrap64 (2*a0)))
set_option maxHeartbeats 8000000 in
set_option maxRecDepth 100000 in
theorem fJ.calls (a0 a1 a2 a3 r1 r2:Int) (w:World) (h:fJ.f a0 a1 a2 a3=some (r1,r2)) :
  Calls Tryz.prog 169 #[.int .i64 a0,.int .i64 a1,.int .i64 a2,.int .i64 a3] w fun e w'=>e = .returned (.tuple #[.int .i64 r1,.int .i64 r2])∧dw w w':=by
 have H:=h
 clear h
 unfold fJ.f at H
 by_cases c5:a1 > a0
 ·rw [if_pos c5] at H
  have iw:=decide_eq_true c5
  clear c5
  simp only [Option.some.injEq,Prod.mk.injEq] at H
  obtain ⟨rfl,rfl⟩:=H
  go_enter Tryz.func169,Tryz.ntmps169
  go_wp2
  go_ret2
  exact ⟨zT,zW⟩
 ·rw [if_neg c5] at H
  have iw:=decide_eq_false c5
  clear c5
  simp only [Option.some.injEq,Prod.mk.injEq] at H
  obtain ⟨rfl,rfl⟩:=H
  go_enter Tryz.func169,Tryz.ntmps169
  go_wp2
  go_ret2
  exact ⟨zT,zW⟩
def iY.f (a0 a1 a2 a3 a4:Int):Option (Bool):=if a0=0 then (if (wrap64 ((wrap64 (a4+1))*a2)) > (wrap64 (a3*a1)) then (some (decide ((wrap64 (a4*a2)) < (wrap64 ((wrap64 (a3+1))*a1))))) else (some false)) else ((fJ.f a1 a2 a3 a4).bind fun ab4=>(if a0=2 then (if ab4.1 < (wrap64 (3*ab4.2)) then (some (decide (ab4.1 > (wrap64 (-(wrap64 (3*ab4.2))))))) else (some false)) else (if ab4.1 < (wrap64 (2*ab4.2)) then (some (decide (ab4.1 > (wrap64 (-(wrap64 (2*ab4.2))))))) else (some false))))
set_option maxHeartbeats 8000000 in
set_option maxRecDepth 100000 in
theorem iY.calls (a0 a1 a2 a3 a4:Int) (r:Bool) (w:World) (h:iY.f a0 a1 a2 a3 a4=some r) :
  Calls Tryz.prog 140 #[.int .i64 a0,.int .i64 a1,.int .i64 a2,.int .i64 a3,.int .i64 a4] w fun e w'=>e = .returned (.bool r)∧dw w w':=by
 have H:=h
 clear h
 unfold iY.f at H
 by_cases c6:a0=0
 ·rw [if_pos c6] at H
  have gQ:(a0 == 0)=true:=beq_iff_eq.mpr c6
  have uw:(a0 != 0)=false:=bne_eq_false_iff_eq.mpr c6
  clear c6
  by_cases c7:(wrap64 ((wrap64 (a4+1))*a2)) > (wrap64 (a3*a1))
  ·rw [if_pos c7] at H
   have jc:=decide_eq_true c7
   clear c7
   obtain rfl:=Option.some.inj H
   go_enter Tryz.func140,Tryz.ntmps140
   go_wp2
   go_ret
   exact ⟨zT,zW⟩
  ·rw [if_neg c7] at H
   have jc:=decide_eq_false c7
   clear c7
   obtain rfl:=Option.some.inj H
   go_enter Tryz.func140,Tryz.ntmps140
   go_wp2
   go_ret
   exact ⟨zT,zW⟩
 ·rw [if_neg c6] at H
  have gQ:(a0 == 0)=false:=beq_eq_false_iff_ne.mpr c6
  have uw:(a0 != 0)=true:=bne_iff_ne.mpr c6
  replace H:=zO H
  obtain ⟨⟨ahZ,ah0⟩,A8,H⟩:=H
  try dsimp only at H
  by_cases c9:a0=2
  ·rw [if_pos c9] at H
   have pz:(a0 == 2)=true:=beq_iff_eq.mpr c9
   have abe:(a0 != 2)=false:=bne_eq_false_iff_eq.mpr c9
   clear c9
   by_cases c10:ahZ < (wrap64 (3*ah0))
   ·rw [if_pos c10] at H
    have pX:=decide_eq_true c10
    clear c10
    obtain rfl:=Option.some.inj H
    go_enter Tryz.func140,Tryz.ntmps140
    go_wp2_with (first|((with_reducible refine ay (f:=169) rfl ?_);refine aH (some 39) rfl rfl Tryz.func169 (by kernel_rfl) rfl #[.int .i64 a1,.int .i64 a2,.int .i64 a3,.int .i64 a4] rfl zL ?_;(with_reducible refine (fJ.calls a1 a2 a3 a4 ahZ ah0 _ A8.out).mono ?_);rintro e w' ⟨rfl,⟨nd,rfl⟩⟩;refine ⟨_,rfl,?_⟩))
    go_ret
    exact ⟨zT,zW⟩
   ·rw [if_neg c10] at H
    have pX:=decide_eq_false c10
    clear c10
    obtain rfl:=Option.some.inj H
    go_enter Tryz.func140,Tryz.ntmps140
    go_wp2_with (first|((with_reducible refine ay (f:=169) rfl ?_);refine aH (some 39) rfl rfl Tryz.func169 (by kernel_rfl) rfl #[.int .i64 a1,.int .i64 a2,.int .i64 a3,.int .i64 a4] rfl zL ?_;(with_reducible refine (fJ.calls a1 a2 a3 a4 ahZ ah0 _ A8.out).mono ?_);rintro e w' ⟨rfl,⟨nd,rfl⟩⟩;refine ⟨_,rfl,?_⟩))
    go_ret
    exact ⟨zT,zW⟩
  ·rw [if_neg c9] at H
   have pz:(a0 == 2)=false:=beq_eq_false_iff_ne.mpr c9
   have abe:(a0 != 2)=true:=bne_iff_ne.mpr c9
   by_cases c11:ahZ < (wrap64 (2*ah0))
   ·rw [if_pos c11] at H
    have iH:=decide_eq_true c11
    clear c11
    obtain rfl:=Option.some.inj H
    go_enter Tryz.func140,Tryz.ntmps140
    go_wp2_with (first|((with_reducible refine ay (f:=169) rfl ?_);refine aH (some 39) rfl rfl Tryz.func169 (by kernel_rfl) rfl #[.int .i64 a1,.int .i64 a2,.int .i64 a3,.int .i64 a4] rfl zL ?_;(with_reducible refine (fJ.calls a1 a2 a3 a4 ahZ ah0 _ A8.out).mono ?_);rintro e w' ⟨rfl,⟨nd,rfl⟩⟩;refine ⟨_,rfl,?_⟩))
    go_ret
    exact ⟨zT,zW⟩
   ·rw [if_neg c11] at H
    have iH:=decide_eq_false c11
    clear c11
    obtain rfl:=Option.some.inj H
    go_enter Tryz.func140,Tryz.ntmps140
    go_wp2_with (first|((with_reducible refine ay (f:=169) rfl ?_);refine aH (some 39) rfl rfl Tryz.func169 (by kernel_rfl) rfl #[.int .i64 a1,.int .i64 a2,.int .i64 a3,.int .i64 a4] rfl zL ?_;(with_reducible refine (fJ.calls a1 a2 a3 a4 ahZ ah0 _ A8.out).mono ?_);rintro e w' ⟨rfl,⟨nd,rfl⟩⟩;refine ⟨_,rfl,?_⟩))
    go_ret
    exact ⟨zT,zW⟩
def dI.f (a0:Int):Option (Int):=if a0 < 0 then (some (IntKind.u64.wrap ((IntKind.u64.wrap (wrap64 (-(wrap64 (a0+1)))))+1))) else (some (IntKind.u64.wrap (a0)))
set_option maxHeartbeats 8000000 in
set_option maxRecDepth 100000 in
theorem dI.calls (a0 r:Int) (w:World) (h:dI.f a0=some r) :
  Calls Tryz.prog 120 #[.int .i64 a0] w fun e w'=>e = .returned (.int .u64 r)∧dw w w':=by
 have H:=h
 clear h
 unfold dI.f at H
 by_cases c2:a0 < 0
 ·rw [if_pos c2] at H
  have mZ:=decide_eq_true c2
  clear c2
  obtain rfl:=Option.some.inj H
  go_enter Tryz.func120,Tryz.ntmps120
  go_wp2
  go_ret
  exact ⟨zT,zW⟩
 ·rw [if_neg c2] at H
  have mZ:=decide_eq_false c2
  clear c2
  obtain rfl:=Option.some.inj H
  go_enter Tryz.func120,Tryz.ntmps120
  go_wp2
  go_ret
  exact ⟨zT,zW⟩
def dG.f (bf bQ a1:Int):Option (Int × Int):=some (IntKind.u64.wrap ((IntKind.u64.wrap (bf*2))+(bQ / 9223372036854775808)),IntKind.u64.wrap ((IntKind.u64.wrap (bQ*2))+a1))
set_option maxHeartbeats 8000000 in
set_option maxRecDepth 100000 in
theorem dG.calls (bf bQ a1 r1 r2:Int) (w:World) (h:dG.f bf bQ a1=some (r1,r2)) :
  Calls Tryz.prog 119 #[.agg #[.int .u64 bf,.int .u64 bQ],.int .u64 a1] w fun e w'=>e = .returned (.agg #[.int .u64 r1,.int .u64 r2])∧Below w.heap.size w w':=by
 have xC:=Tryz.underlying179
 have HB:=aj.mk (Below.refl w.heap.size w)
 have H:=h
 clear h
 unfold dG.f at H
 simp only [Option.some.injEq,Prod.mk.injEq] at H
 obtain ⟨rfl,rfl⟩:=H
 go_enter Tryz.func119,Tryz.ntmps119
 go_wp2_with (first|((with_reducible refine bD (N:=2) rfl ?_);refine bC zR (N:=2) zR (cs := #[.int .u64 bf,.int .u64 bQ]) (t:=179) zG ?_;intro aAv hg w3 hbox hb;obtain ⟨HB,aeV,aAw,aAx⟩:=zA4 (ak zB hb) hbox (zg hg zB) (zg hg zB);clear hb hbox hg)|((with_reducible refine bD (N:=4) rfl ?_);refine bC zR (N:=4) zR (cs := #[.int .u64 0,.int .u64 0]) (t:=179) zG ?_;intro ava hg w4 hbox hb;obtain ⟨aeV,HB,am4,aAy,aAz,anW,anX⟩:=zA7 (aA (zK aeV) hb) (ak zB hb) hbox (zg hg zB) (zg hg zB) (zl hg (zK aeV)) (zr hg (zK aeV));clear hb hbox hg;have avA:=anW.out;have avC:=anX.out;obtain ⟨_,_⟩:=zC2 aeV.out;obtain ⟨_,_⟩:=zF2 aeV.out;obtain ⟨_,_⟩:=zC2 am4.out;obtain ⟨_,_⟩:=zF2 am4.out))
 refine bodyPost_ret (results_cell_row rfl _ _ ava 179 #[.int .u64 (IntKind.u64.wrap ((IntKind.u64.wrap (bf*2))+(bQ / 9223372036854775808))),.int .u64 (IntKind.u64.wrap ((IntKind.u64.wrap (bQ*2))+a1))] (0,0) _ rfl (by refine zD ?_;refine aW (cs := #[.int .u64 (IntKind.u64.wrap ((IntKind.u64.wrap (bf*2))+(bQ / 9223372036854775808))),.int .u64 0]) ?_ 1 _ rfl;refine zD ?_;refine aW (cs := #[.int .u64 0,.int .u64 0]) ?_ 0 _ rfl;refine zD ?_;exact am4.out) Tryz.underlying179 rfl (by kernel_rfl)) rfl ?_
 exact ⟨zS,zB⟩
def gy.f (bf bQ kY nV:Int):Option (Int × Int):=if (IntKind.u64.wrap (bQ+nV)) < bQ then (some (IntKind.u64.wrap ((IntKind.u64.wrap (bf+kY))+1),IntKind.u64.wrap (bQ+nV))) else (some (IntKind.u64.wrap (bf+kY),IntKind.u64.wrap (bQ+nV)))
set_option maxHeartbeats 8000000 in
set_option maxRecDepth 100000 in
theorem gy.calls (bf bQ kY nV r1 r2:Int) (w:World) (h:gy.f bf bQ kY nV=some (r1,r2)) :
  Calls Tryz.prog 124 #[.agg #[.int .u64 bf,.int .u64 bQ],.agg #[.int .u64 kY,.int .u64 nV]] w fun e w'=>e = .returned (.agg #[.int .u64 r1,.int .u64 r2])∧Below w.heap.size w w':=by
 have xC:=Tryz.underlying179
 have HB:=aj.mk (Below.refl w.heap.size w)
 have H:=h
 clear h
 unfold gy.f at H
 by_cases c3:(IntKind.u64.wrap (bQ+nV)) < bQ
 ·rw [if_pos c3] at H
  have fP:=decide_eq_true c3
  clear c3
  simp only [Option.some.injEq,Prod.mk.injEq] at H
  obtain ⟨rfl,rfl⟩:=H
  go_enter Tryz.func124,Tryz.ntmps124
  go_wp2_with (first|((with_reducible refine bD (N:=2) rfl ?_);refine bC zR (N:=2) zR (cs := #[.int .u64 bf,.int .u64 bQ]) (t:=179) zG ?_;intro avb hg w4 hbox hb;obtain ⟨HB,jV,avc,avd⟩:=zA4 (ak zB hb) hbox (zg hg zB) (zg hg zB);clear hb hbox hg)|((with_reducible refine bD (N:=3) rfl ?_);refine bC zR (N:=3) zR (cs := #[.int .u64 kY,.int .u64 nV]) (t:=179) zG ?_;intro ave hg w5 hbox hb;obtain ⟨jV,HB,o7,avf,avg,ael,aem⟩:=zA7 (aA (zK jV) hb) (ak zB hb) hbox (zg hg zB) (zg hg zB) (zl hg (zK jV)) (zr hg (zK jV));clear hb hbox hg)|((with_reducible refine bD (N:=4) rfl ?_);refine bC zR (N:=4) zR (cs := #[.int .u64 0,.int .u64 0]) (t:=179) zG ?_;intro am5 hg w6 hbox hb;obtain ⟨jV,o7,HB,uM,avh,avi,aen,aeo,aep,aer⟩:=adA (aA (zK jV) hb) (aA (zK o7) hb) (ak zB hb) hbox (zg hg zB) (zg hg zB) (zl hg (zK jV)) (zr hg (zK jV)) (zl hg (zK o7)) (zr hg (zK o7));clear hb hbox hg;have asf:=ael.out;have asg:=aem.out;have ash:=aen.out;have asi:=aeo.out;obtain ⟨_,_⟩:=zC2 jV.out;obtain ⟨_,_⟩:=zF2 jV.out;have atI:=aep.out;have atJ:=aer.out;obtain ⟨_,_⟩:=zC2 o7.out;obtain ⟨_,_⟩:=zF2 o7.out)|((with_reducible refine bD (N:=5) rfl ?_);refine bC zR (N:=5) zR (cs := #[.int .u64 0,.int .u64 0]) (t:=179) zG ?_;intro avj hg w12 hbox hb;obtain ⟨jV,o7,uM,HB,ag4,avk,avl,aes,aeu,aev,aew,um,aex⟩:=afl (aA (zK jV) hb) (aA (zK o7) hb) (aA (zK uM) hb) (ak zB hb) hbox (zg hg zB) (zg hg zB) (zl hg (zK jV)) (zr hg (zK jV)) (zl hg (zK o7)) (zr hg (zK o7)) (zl hg (zK uM)) (zr hg (zK uM));clear hb hbox hg;have al8:=aeu.out;have al9:=aes.out;have aqj:=aew.out;have aqk:=aev.out;have atN:=aex.out;have atO:=um.out;obtain ⟨_,_⟩:=zC2 ag4.out;obtain ⟨_,_⟩:=zF2 ag4.out;obtain ⟨_,_⟩:=zC2 jV.out;obtain ⟨_,_⟩:=zF2 jV.out;obtain ⟨_,_⟩:=zC2 uM.out;obtain ⟨_,_⟩:=zF2 uM.out))
  refine bodyPost_ret (results_cell_row rfl _ _ am5 179 #[.int .u64 (IntKind.u64.wrap ((IntKind.u64.wrap (bf+kY))+1)),.int .u64 (IntKind.u64.wrap (bQ+nV))] (0,0) _ rfl (by refine zD ?_;refine aW (cs := #[.int .u64 (IntKind.u64.wrap ((IntKind.u64.wrap (bf+kY))+1)),.int .u64 0]) ?_ 1 _ rfl;refine zD ?_;refine aW (cs := #[.int .u64 0,.int .u64 0]) ?_ 0 _ rfl;refine zD ?_;refine lN ?_ um.out _;refine zD ?_;refine lN ?_ um.out _;refine zD ?_;refine lN ?_ um.out _;refine zD ?_;exact uM.out) Tryz.underlying179 rfl (by kernel_rfl)) rfl ?_
  exact ⟨zS,zB⟩
 ·rw [if_neg c3] at H
  have fP:=decide_eq_false c3
  clear c3
  simp only [Option.some.injEq,Prod.mk.injEq] at H
  obtain ⟨rfl,rfl⟩:=H
  go_enter Tryz.func124,Tryz.ntmps124
  go_wp2_with (first|((with_reducible refine bD (N:=2) rfl ?_);refine bC zR (N:=2) zR (cs := #[.int .u64 bf,.int .u64 bQ]) (t:=179) zG ?_;intro avb hg w19 hbox hb;obtain ⟨HB,jV,avc,avd⟩:=zA4 (ak zB hb) hbox (zg hg zB) (zg hg zB);clear hb hbox hg)|((with_reducible refine bD (N:=3) rfl ?_);refine bC zR (N:=3) zR (cs := #[.int .u64 kY,.int .u64 nV]) (t:=179) zG ?_;intro ave hg w20 hbox hb;obtain ⟨jV,HB,o7,avf,avg,ael,aem⟩:=zA7 (aA (zK jV) hb) (ak zB hb) hbox (zg hg zB) (zg hg zB) (zl hg (zK jV)) (zr hg (zK jV));clear hb hbox hg)|((with_reducible refine bD (N:=4) rfl ?_);refine bC zR (N:=4) zR (cs := #[.int .u64 0,.int .u64 0]) (t:=179) zG ?_;intro am5 hg w21 hbox hb;obtain ⟨jV,o7,HB,uM,avh,avi,aen,aeo,aep,aer⟩:=adA (aA (zK jV) hb) (aA (zK o7) hb) (ak zB hb) hbox (zg hg zB) (zg hg zB) (zl hg (zK jV)) (zr hg (zK jV)) (zl hg (zK o7)) (zr hg (zK o7));clear hb hbox hg;have aqo:=ael.out;have aqp:=aem.out;have ama:=aen.out;have amb:=aeo.out;obtain ⟨_,_⟩:=zC2 jV.out;obtain ⟨_,_⟩:=zF2 jV.out;have aub:=aep.out;have auc:=aer.out;obtain ⟨_,_⟩:=zC2 o7.out;obtain ⟨_,_⟩:=zF2 o7.out)|((with_reducible refine bD (N:=5) rfl ?_);refine bC zR (N:=5) zR (cs := #[.int .u64 0,.int .u64 0]) (t:=179) zG ?_;intro avj hg w27 hbox hb;obtain ⟨jV,o7,uM,HB,ag4,avk,avl,aes,aeu,aev,aew,um,aex⟩:=afl (aA (zK jV) hb) (aA (zK o7) hb) (aA (zK uM) hb) (ak zB hb) hbox (zg hg zB) (zg hg zB) (zl hg (zK jV)) (zr hg (zK jV)) (zl hg (zK o7)) (zr hg (zK o7)) (zl hg (zK uM)) (zr hg (zK uM));clear hb hbox hg;have aus:=aeu.out;have aut:=aes.out;have amf:=aew.out;have amg:=aev.out;have aql:=aex.out;have aqm:=um.out;obtain ⟨_,_⟩:=zC2 ag4.out;obtain ⟨_,_⟩:=zF2 ag4.out;obtain ⟨_,_⟩:=zC2 jV.out;obtain ⟨_,_⟩:=zF2 jV.out;obtain ⟨_,_⟩:=zC2 uM.out;obtain ⟨_,_⟩:=zF2 uM.out))
  refine bodyPost_ret (results_cell_row rfl _ _ am5 179 #[.int .u64 (IntKind.u64.wrap (bf+kY)),.int .u64 (IntKind.u64.wrap (bQ+nV))] (0,0) _ rfl (by refine zD ?_;refine aW (cs := #[.int .u64 (IntKind.u64.wrap (bf+kY)),.int .u64 0]) ?_ 1 _ rfl;refine zD ?_;refine aW (cs := #[.int .u64 0,.int .u64 0]) ?_ 0 _ rfl;refine zD ?_;refine lN ?_ um.out _;refine zD ?_;refine lN ?_ um.out _;refine zD ?_;exact uM.out) Tryz.underlying179 rfl (by kernel_rfl)) rfl ?_
  exact ⟨zS,zB⟩
end Go.Proofs.YtpondkggmcmpfaaGreatDoor.QA
