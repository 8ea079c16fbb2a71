/- Joined by wip/tools/bundle.py out of: QAx9 QAx10 QAx14 QAx15 QAx16 QAx21 QAx22 QAx23. -/
import Derived.Test.YtpondkggmcmpfaaGreatDoorBPlanTiles0
import Derived.Test.YtpondkggmcmpfaaGreatDoorBPlanTiles1
import Derived.Test.YtpondkggmcmpfaaGreatDoorBPlanTiles2
namespace Go.Proofs.YtpondkggmcmpfaaGreatDoor.QA
open Go.Proofs.YtpondkggmcmpfaaGreatDoor.T
open Go.RowKit Go.Proofs.YtpondkggmcmpfaaGreatDoorW.PrintWords Go.Proofs.YtpondkggmcmpfaaGreatDoorW.PrintLast Go.Proofs.YtpondkggmcmpfaaGreatDoorW.PrintMore
attribute [local go_sem] eG dX dY fF fG
set_option linter.unusedVariables false
set_option linter.unusedSimpArgs false
def dI.j0:Nat→Bool→Int→Int→Bool→Option (Int)
 | 0,_,_,_,_=>none
 | k+1,x9,x10,x11,x59=>if x59=true then ((dA.f k x10 x11 x9).bind fun arX=>(some arX)) else ((dA.f k (IntKind.u64.wrap (x10+(qA x11 1 0))) (qy x11 1 0) x9).bind fun arY=>(some arY))
def dI.f (k:Nat) (a0 a1 a2:Int):Option (Int):=if (mx 0 a2)≥128 then (some 0) else ((kR.f a0 a1).bind fun mM=>(if (mx 0 a2)=0 then ((dA.f k mM.1 mM.2.1 mM.2.2).bind fun al2=>(some al2)) else ((oL.f mM.1 mM.2.1 (mx 0 a2)).bind fun yx=>((oL.f mM.1 mM.2.1 (wrap64 ((mx 0 a2) - 1))).bind fun aoO=>(if (Go.bits .and .u64 aoO.2 1)=0 then (dI.j0 k mM.2.2 yx.1 yx.2 true) else (if mM.2.2=true then ((tJ.f mM.1 mM.2.1 (wrap64 ((mx 0 a2) - 1))).bind fun aja=>(dI.j0 k mM.2.2 yx.1 yx.2 aja)) else (dI.j0 k mM.2.2 yx.1 yx.2 false)))))))
theorem dI.jl:∀ k,(∀ y0 y1 y2 y3,LeO (dI.j0 k y0 y1 y2 y3) (dI.j0 (k+1) y0 y1 y2 y3))
 | 0=>fun _ _ _ _ r h=>by simp [dI.j0] at h
 | k+1=>by
  have ih0:=dI.jl k
  ·intro y0 y1 y2 y3
   unfold dI.j0
   repeat' (with_reducible first|exact ih0 _ _ _ _|exact dA.mono _ _ _ _|exact zM|refine LeO.ite ?_ ?_|refine LeO.bind ?_ (fun _ => ?_))
theorem dI.mono:∀ a0 a1 a2 k,LeO (dI.f k a0 a1 a2) (dI.f (k+1) a0 a1 a2):=by
 intro a0 a1 a2 k
 have ih0:=dI.jl k
 unfold dI.f
 repeat' (with_reducible first|exact ih0 _ _ _ _|exact dA.mono _ _ _ _|exact zM|refine LeO.ite ?_ ?_|refine LeO.bind ?_ (fun _ => ?_))
set_option maxHeartbeats 8000000 in
set_option maxRecDepth 100000 in
theorem dI.calls (k:Nat) (a0 a1 a2 r:Int) (w:World) (h:dI.f k a0 a1 a2=some r) :
  Calls Tryz.prog 176 #[.int .i64 a0,.int .i64 a1,.int .i64 a2] w fun e w'=>e = .returned (.int .i64 r)∧Below w.heap.size w w':=by
 have HB:=aj.mk (Below.refl w.heap.size w)
 have H:=h
 clear h
 unfold dI.f at H
 obtain ⟨ji4,zf⟩:∃ j_:Int,(mx 0 a2)=j_:=⟨_,rfl⟩
 replace H:(if (ji4)≥128 then (some 0) else ((kR.f a0 a1).bind fun mM=>(if (ji4)=0 then ((dA.f k mM.1 mM.2.1 mM.2.2).bind fun al2=>(some al2)) else ((oL.f mM.1 mM.2.1 (ji4)).bind fun yx=>((oL.f mM.1 mM.2.1 (wrap64 ((ji4) - 1))).bind fun aoO=>(if (Go.bits .and .u64 aoO.2 1)=0 then (dI.j0 k mM.2.2 yx.1 yx.2 true) else (if mM.2.2=true then ((tJ.f mM.1 mM.2.1 (wrap64 ((ji4) - 1))).bind fun aja=>(dI.j0 k mM.2.2 yx.1 yx.2 aja)) else (dI.j0 k mM.2.2 yx.1 yx.2 false))))))))=some r:=by first|(rw [zf] at H;exact H)|(simp only [zf] at H ⊢;exact H)
 (try (have ate:0≤ji4:=by (rw [← zf];unfold mx;(repeat' split) <;> omega)))
 (try (have aC5:0≤ji4:=by omega))
 have aC6:(if 0 < a2 then a2 else 0)=ji4:=zf
 by_cases c5:(ji4)≥128
 ·rw [if_pos c5] at H
  have iR:=decide_eq_true c5
  clear c5
  obtain rfl:=Option.some.inj H
  go_enter Tryz.func176,Tryz.ntmps176
  go_wp2
  go_ret
  exact ⟨by first|rfl|(simp [bT,bU] <;> rfl)|(simp only [← zf];first|rfl|(simp [bT,bU] <;> rfl))|(simp [*,bT,bU] <;> rfl),zB⟩
 ·rw [if_neg c5] at H
  have iR:=decide_eq_false c5
  clear c5
  replace H:=zO H
  obtain ⟨⟨t141,aee,t143⟩,A6,H⟩:=H
  try dsimp only at H
  by_cases c7:(ji4)=0
  ·rw [if_pos c7] at H
   have jI:((ji4) == 0)=true:=beq_iff_eq.mpr c7
   have ab3:((ji4) != 0)=false:=bne_eq_false_iff_eq.mpr c7
   clear c7
   replace H:=zO H
   obtain ⟨al2,A8,H⟩:=H
   try dsimp only at H
   obtain rfl:=Option.some.inj H
   go_enter Tryz.func176,Tryz.ntmps176
   go_wp2_with (first|((with_reducible refine aA (f:=154) rfl ?_);refine aI (some 22) rfl rfl Tryz.func154 (by kernel_rfl) rfl #[.int .i64 a0,.int .i64 a1] rfl zL ?_;(with_reducible refine (kR.calls a0 a1 t141 aee t143 _ A6.out).mono ?_);rintro e w' ⟨rfl,⟨nd,rfl⟩⟩;refine ⟨_,rfl,?_⟩)|((with_reducible refine aA (f:=156) rfl ?_);refine aI (some 31) rfl rfl Tryz.func156 (by kernel_rfl) rfl #[.int .u64 t141,.int .u64 aee,.bool t143] rfl zL ?_;(with_reducible refine (dA.calls k t141 aee t143 al2 _ A8.out).mono ?_);rintro e w' ⟨rfl,⟨nd,rfl⟩⟩;refine ⟨_,rfl,?_⟩))
   go_ret
   exact ⟨by first|rfl|(simp [bT,bU] <;> rfl)|(simp only [← zf];first|rfl|(simp [bT,bU] <;> rfl))|(simp [*,bT,bU] <;> rfl),zB⟩
  ·rw [if_neg c7] at H
   have jI:((ji4) == 0)=false:=beq_eq_false_iff_ne.mpr c7
   have ab3:((ji4) != 0)=true:=bne_iff_ne.mpr c7
   replace H:=zO H
   obtain ⟨⟨t145,t146⟩,A9,H⟩:=H
   try dsimp only at H
   replace H:=zO H
   obtain ⟨⟨ayP,t148⟩,A10,H⟩:=H
   try dsimp only at H
   have arZ:=aj.mk H
   clear H
   go_enter Tryz.func176,Tryz.ntmps176
   go_upto_region 9 with (first|((with_reducible refine aA (f:=154) rfl ?_);refine aI (some 22) rfl rfl Tryz.func154 (by kernel_rfl) rfl #[.int .i64 a0,.int .i64 a1] rfl zL ?_;(with_reducible refine (kR.calls a0 a1 t141 aee t143 _ A6.out).mono ?_);rintro e w' ⟨rfl,⟨nd,rfl⟩⟩;refine ⟨_,rfl,?_⟩)|((with_reducible refine aA (f:=188) rfl ?_);refine aI (some 36) rfl rfl Tryz.func188 (by kernel_rfl) rfl #[.int .u64 t141,.int .u64 aee,.int .i64 ji4] rfl (by (try simp only [List.map_toArray,List.map_cons,List.map_nil]);first|done|(simp only [zf];rfl)|(simp only [Int.tdiv_eq_ediv_of_nonneg ate];rfl)|rfl|(simp only [List.length_drop,List.length_take];rfl)) ?_;(with_reducible refine (oL.calls t141 aee ji4 t145 t146 _ A9.out).mono ?_);rintro e w' ⟨rfl,⟨nd,rfl⟩⟩;refine ⟨_,rfl,?_⟩)|((with_reducible refine aA (f:=188) rfl ?_);refine aI (some 44) rfl rfl Tryz.func188 (by kernel_rfl) rfl #[.int .u64 t141,.int .u64 aee,.int .i64 (wrap64 ((ji4) - 1))] rfl (by (try simp only [List.map_toArray,List.map_cons,List.map_nil]);first|done|(simp only [zf];rfl)|(simp only [Int.tdiv_eq_ediv_of_nonneg ate];rfl)|rfl|(simp only [List.length_drop,List.length_take];rfl)) ?_;(with_reducible refine (oL.calls t141 aee (wrap64 ((ji4) - 1)) ayP t148 _ A10.out).mono ?_);rintro e w' ⟨rfl,⟨nd,rfl⟩⟩;refine ⟨_,rfl,?_⟩))
   (try simp only [Act.put,List.setIfInBounds_toArray,List.set_cons_zero,List.set_cons_succ])
   go_cut [59] (fun v59 wc=>∃ (kq:Nat) (ah4:Bool),v59 = .bool ah4∧aj (dI.j0 kq t143 t145 t146 ah4=some r)∧aj (kq≤k)∧aj (Below w.heap.size w wc))
   case first =>
    have H:=arZ.out
    clear arZ
    by_cases c12:(Go.bits .and .u64 t148 1)=0
    ·rw [if_pos c12] at H
     have abP:((Go.bits .and .u64 t148 1) == 0)=true:=beq_iff_eq.mpr c12
     have axr:((Go.bits .and .u64 t148 1) != 0)=false:=bne_eq_false_iff_eq.mpr c12
     clear c12
     (first|rw [abP]|(simp only [cZ,dB];rw [abP])|skip)
     have H':=aj.mk H
     clear H
     go_wp2
     go_meet
     case rel=>exact ⟨_,(true),zT,H',⟨by first|omega|exact Nat.le_refl _⟩,⟨zB⟩⟩
    ·rw [if_neg c12] at H
     have abP:((Go.bits .and .u64 t148 1) == 0)=false:=beq_eq_false_iff_ne.mpr c12
     have axr:((Go.bits .and .u64 t148 1) != 0)=true:=bne_iff_ne.mpr c12
     (first|rw [abP]|(simp only [cZ,dB];rw [abP])|skip)
     by_cases c13:t143=true
     ·subst c13
      rw [if_pos rfl] at H;try dsimp only at H
      replace H:=zO H
      obtain ⟨aja,A14,H⟩:=H
      try dsimp only at H
      have H':=aj.mk H
      clear H
      go_wp2_with (first|(go_at_call 189;(with_reducible refine (tJ.calls t141 aee (wrap64 ((ji4) - 1)) aja _ A14.out).mono ?_);rintro e w' ⟨rfl,⟨nd,rfl⟩⟩))
      go_meet
      case rel=>exact ⟨_,(aja),zT,H',⟨by first|omega|exact Nat.le_refl _⟩,⟨zB⟩⟩
     ·replace c13:=Bool.eq_false_iff.mpr c13
      subst c13
      rw [if_neg (show ¬ (false=true) by decide)] at H;try dsimp only at H
      have H':=aj.mk H
      clear H
      go_wp2
      go_meet
      case rel=>exact ⟨_,(false),zT,H',⟨by first|omega|exact Nat.le_refl _⟩,⟨zB⟩⟩
   case rest =>
    clear arZ
    obtain ⟨kq,ah4,rfl,HA,aD0,HB⟩:=hcut
    cases kq with
    | zero=>exact absurd HA.out (by simp [dI.j0])
    | succ avp =>
     have H:=HA.out
     clear HA
     simp only [dI.j0] at H
     by_cases c15:ah4=true
     ·subst c15
      rw [if_pos rfl] at H;try dsimp only at H
      replace H:=zO H
      obtain ⟨arX,A16,H⟩:=H
      try dsimp only at H
      obtain rfl:=Option.some.inj H
      go_wp2_with (first|((with_reducible refine aA (f:=156) rfl ?_);refine aI (some 63) rfl rfl Tryz.func156 (by kernel_rfl) rfl #[.int .u64 t145,.int .u64 t146,.bool t143] rfl zL ?_;(with_reducible refine (dA.calls avp t145 t146 t143 arX _ A16.out).mono ?_);rintro e w' ⟨rfl,⟨nd,rfl⟩⟩;refine ⟨_,rfl,?_⟩))
      go_ret
      exact ⟨by first|rfl|(simp [bT,bU] <;> rfl)|(simp only [← zf];first|rfl|(simp [bT,bU] <;> rfl))|(simp [*,bT,bU] <;> rfl),zB⟩
     ·replace c15:=Bool.eq_false_iff.mpr c15
      subst c15
      rw [if_neg (show ¬ (false=true) by decide)] at H;try dsimp only at H
      replace H:=zO H
      obtain ⟨arY,A17,H⟩:=H
      try dsimp only at H
      obtain rfl:=Option.some.inj H
      go_wp2_with (first|((with_reducible refine aA (f:=156) rfl ?_);refine aI (some 74) rfl rfl Tryz.func156 (by kernel_rfl) rfl #[.int .u64 (IntKind.u64.wrap (t145+(qA t146 1 0))),.int .u64 (qy t146 1 0),.bool t143] rfl zL ?_;(with_reducible refine (dA.calls avp (IntKind.u64.wrap (t145+(qA t146 1 0))) (qy t146 1 0) t143 arY _ A17.out).mono ?_);rintro e w' ⟨rfl,⟨nd,rfl⟩⟩;refine ⟨_,rfl,?_⟩))
      go_ret
      exact ⟨by first|rfl|(simp [bT,bU] <;> rfl)|(simp only [← zf];first|rfl|(simp [bT,bU] <;> rfl))|(simp [*,bT,bU] <;> rfl),zB⟩
def eY.l0:Nat→Int→Int→Int→Int→Int→Option (Int)
 | 0,_,_,_,_,_=>none
 | k+1,x5,x6,x7,x8,x9=>if x9≤30 then ((bg.f k x7 x5 (wrap64 ((wrap64 ((wrap64 (2*x9))*(wrap64 ((wrap64 (2*x9))+1))))*1099511627776))).bind fun ajb=>(eY.l0 k x5 (wrap64 (x6+(wrap64 ((wrap64 (-x8))*ajb)))) ajb (wrap64 (-x8)) (wrap64 (x9+1)))) else (some x6)
def eY.f (k:Nat) (a0 a1:Int):Option (Int):=(tK.f a0).bind fun t152=>((bg.f k 10851744800547 t152 a1).bind fun al3=>((bg.f k al3 t152 a1).bind fun t154=>(eY.l0 k t154 1099511627776 1099511627776 1 1)))
theorem eY.jl:∀ k,(∀ y0 y1 y2 y3 y4,LeO (eY.l0 k y0 y1 y2 y3 y4) (eY.l0 (k+1) y0 y1 y2 y3 y4))
 | 0=>fun _ _ _ _ _ r h=>by simp [eY.l0] at h
 | k+1=>by
  have ih0:=eY.jl k
  ·intro y0 y1 y2 y3 y4
   unfold eY.l0
   repeat' (with_reducible first|exact ih0 _ _ _ _ _|exact bg.mono _ _ _ _|exact zM|refine LeO.ite ?_ ?_|refine LeO.bind ?_ (fun _ => ?_))
theorem eY.mono:∀ a0 a1 k,LeO (eY.f k a0 a1) (eY.f (k+1) a0 a1):=by
 intro a0 a1 k
 have ih0:=eY.jl k
 unfold eY.f
 repeat' (with_reducible first|exact ih0 _ _ _ _ _|exact bg.mono _ _ _ _|exact zM|refine LeO.ite ?_ ?_|refine LeO.bind ?_ (fun _ => ?_))
set_option maxHeartbeats 8000000 in
set_option maxRecDepth 100000 in
theorem eY.calls (k:Nat) (a0 a1 r:Int) (w:World) (h:eY.f k a0 a1=some r) :
  Calls Tryz.prog 177 #[.int .i64 a0,.int .i64 a1] w fun e w'=>e = .returned (.int .i64 r)∧Below w.heap.size w w':=by
 have HB:=aj.mk (Below.refl w.heap.size w)
 have H:=h
 clear h
 unfold eY.f at H
 replace H:=zO H
 obtain ⟨t152,A3,H⟩:=H
 try dsimp only at H
 replace H:=zO H
 obtain ⟨al3,A4,H⟩:=H
 try dsimp only at H
 replace H:=zO H
 obtain ⟨t154,A5,H⟩:=H
 try dsimp only at H
 have H':=aj.mk H
 clear H
 go_enter Tryz.func177,Tryz.ntmps177
 go_wp2_with (first|((with_reducible refine aA (f:=175) rfl ?_);refine aI (some 11) rfl rfl Tryz.func175 (by kernel_rfl) rfl #[.int .i64 a0] rfl zL ?_;(with_reducible refine (tK.calls a0 t152 _ A3.out).mono ?_);rintro e w6 ⟨rfl,hb⟩;refine ⟨_,rfl,?_⟩;replace HB:=aj.mk (ak zB hb);(try clear hb))|((with_reducible refine aA (f:=130) rfl ?_);refine aI (some 14) rfl rfl Tryz.func130 (by kernel_rfl) rfl #[.int .i64 10851744800547,.int .i64 t152,.int .i64 a1] rfl zL ?_;(with_reducible refine (bg.calls k 10851744800547 t152 a1 al3 _ A4.out).mono ?_);rintro e w' ⟨rfl,⟨nd,rfl⟩⟩;refine ⟨_,rfl,?_⟩)|((with_reducible refine aA (f:=130) rfl ?_);refine aI (some 17) rfl rfl Tryz.func130 (by kernel_rfl) rfl #[.int .i64 al3,.int .i64 t152,.int .i64 a1] rfl zL ?_;(with_reducible refine (bg.calls k al3 t152 a1 t154 _ A5.out).mono ?_);rintro e w' ⟨rfl,⟨nd,rfl⟩⟩;refine ⟨_,rfl,?_⟩))
 go_loopg [6,7,8,9] k (fun kq v6 v7 v8 v9 w'=>∃ (qK:Int) (adh:Int) (bC:Int) (pq:Int),v6 = .int .i64 qK∧v7 = .int .i64 adh∧v8 = .int .i64 bC∧v9 = .int .i64 pq∧aj (eY.l0 kq t154 qK adh bC pq=some r)∧aj (kq≤k)∧aj (Below w.heap.size w w'))
 case atStart=>exact ⟨(1099511627776),(1099511627776),(1),(1),zT,zT,zT,zT,H',⟨Nat.le_refl _⟩,⟨zB⟩⟩
 case round =>
  clear H'
  obtain ⟨qK,adh,bC,pq,rfl,rfl,rfl,rfl,HA,HK1,HB⟩:=hrel
  cases gk with
  | zero=>exact absurd HA.out (by simp [eY.l0])
  | succ k1 =>
   have H:=HA.out
   clear HA
   simp only [eY.l0] at H
   by_cases c7:pq≤30
   ·rw [if_pos c7] at H
    have jI:=decide_eq_true c7
    clear c7
    replace H:=zO H
    obtain ⟨ajb,A8,H⟩:=H
    try dsimp only at H
    have H':=aj.mk H
    clear H
    go_wp2_with (first|((with_reducible refine aA (f:=130) rfl ?_);refine aI (some 33) rfl rfl Tryz.func130 (by kernel_rfl) rfl #[.int .i64 adh,.int .i64 t154,.int .i64 (wrap64 ((wrap64 ((wrap64 (2*pq))*(wrap64 ((wrap64 (2*pq))+1))))*1099511627776))] rfl zL ?_;(with_reducible refine (bg.calls k1 adh t154 (wrap64 ((wrap64 ((wrap64 (2*pq))*(wrap64 ((wrap64 (2*pq))+1))))*1099511627776)) ajb _ A8.out).mono ?_);rintro e w' ⟨rfl,⟨nd,rfl⟩⟩;refine ⟨_,rfl,?_⟩))
    go_roundg k1
    case measure=>have:=HK1.out;omega
    case rel=>exact ⟨(wrap64 (qK+(wrap64 ((wrap64 (-bC))*ajb)))),(ajb),(wrap64 (-bC)),(wrap64 (pq+1)),zT,zT,zT,zT,H',⟨by have:=HK1.out;omega⟩,⟨zB⟩⟩
   ·rw [if_neg c7] at H
    have jI:=decide_eq_false c7
    clear c7
    obtain rfl:=Option.some.inj H
    go_wp2
    go_ret
    exact ⟨zS,zB⟩
end Go.Proofs.YtpondkggmcmpfaaGreatDoor.QA
namespace Go.Proofs.YtpondkggmcmpfaaGreatDoor.QA
open Go.Proofs.YtpondkggmcmpfaaGreatDoor.T
open Go.RowKit Go.Proofs.YtpondkggmcmpfaaGreatDoorW.PrintWords Go.Proofs.YtpondkggmcmpfaaGreatDoorW.PrintLast Go.Proofs.YtpondkggmcmpfaaGreatDoorW.PrintMore
attribute [local go_sem] eG dX dY fF fG
set_option linter.unusedVariables false
set_option linter.unusedSimpArgs false
def fA.j0:Nat→Int→Int→Bool→Option (Int)
 | 0,_,_,_=>none
 | k+1,x0,x1,x15=>if x15=true then (some 0) else ((eY.f k x0 x1).bind fun al4=>((eY.f k x0 (wrap64 (3*x1))).bind fun t159=>((dI.f k al4 t159 40).bind fun t160=>((nJ.f t160 10).bind fun ar0=>(some ar0)))))
def fA.f (k:Nat) (a0 a1:Int):Option (Int):=(xJ.f a0 a1).bind fun t156=>(if t156=true then ((tK.f a0).bind fun t157=>(fA.j0 k a0 a1 (decide (t157≥(wrap64 (3*a1)))))) else (fA.j0 k a0 a1 true))
theorem fA.jl:∀ k,(∀ y0 y1 y2,LeO (fA.j0 k y0 y1 y2) (fA.j0 (k+1) y0 y1 y2))
 | 0=>fun _ _ _ r h=>by simp [fA.j0] at h
 | k+1=>by
  have ih0:=fA.jl k
  ·intro y0 y1 y2
   unfold fA.j0
   repeat' (with_reducible first|exact ih0 _ _ _|exact eY.mono _ _ _|exact dI.mono _ _ _ _|exact zM|refine LeO.ite ?_ ?_|refine LeO.bind ?_ (fun _ => ?_))
theorem fA.mono:∀ a0 a1 k,LeO (fA.f k a0 a1) (fA.f (k+1) a0 a1):=by
 intro a0 a1 k
 have ih0:=fA.jl k
 unfold fA.f
 repeat' (with_reducible first|exact ih0 _ _ _|exact eY.mono _ _ _|exact dI.mono _ _ _ _|exact zM|refine LeO.ite ?_ ?_|refine LeO.bind ?_ (fun _ => ?_))
set_option maxHeartbeats 8000000 in
set_option maxRecDepth 100000 in
theorem fA.calls (k:Nat) (a0 a1 r:Int) (w:World) (h:fA.f k a0 a1=some r) :
  Calls Tryz.prog 153 #[.int .i64 a0,.int .i64 a1] w fun e w'=>e = .returned (.int .i64 r)∧Below w.heap.size w w':=by
 have HB:=aj.mk (Below.refl w.heap.size w)
 have H:=h
 clear h
 unfold fA.f at H
 have HC3:=aj.mk H
 clear H
 go_enter Tryz.func153,Tryz.ntmps153
 go_upto_region 1 with (fail)
 go_cut [15] (fun v15 wc=>∃ (kq:Nat) (ako:Bool),v15 = .bool ako∧aj (fA.j0 kq a0 a1 ako=some r)∧aj (kq≤k)∧aj (Below w.heap.size w wc))
 case first =>
  have H:=HC3.out
  clear HC3
  replace H:=zO H
  obtain ⟨t156,A4,H⟩:=H
  try dsimp only at H
  by_cases c5:t156=true
  ·subst c5
   rw [if_pos rfl] at H;try dsimp only at H
   replace H:=zO H
   obtain ⟨t157,A6,H⟩:=H
   try dsimp only at H
   have H':=aj.mk H
   clear H
   go_wp2_with (first|((with_reducible refine aA (f:=174) rfl ?_);refine aI (some 7) rfl rfl Tryz.func174 (by kernel_rfl) rfl #[.int .i64 a0,.int .i64 a1] rfl zL ?_;(with_reducible refine (xJ.calls a0 a1 true _ A4.out).mono ?_);rintro e w' ⟨rfl,⟨nd,rfl⟩⟩;refine ⟨_,rfl,?_⟩)|(go_at_call 175;(with_reducible refine (tK.calls a0 t157 _ A6.out).mono ?_);rintro e w7 ⟨rfl,hb⟩;replace HB:=aj.mk (ak zB hb);(try clear hb)))
   go_meet
   case rel=>exact ⟨_,(decide (t157≥(wrap64 (3*a1)))),zT,H',⟨by first|omega|exact Nat.le_refl _⟩,⟨zB⟩⟩
  ·replace c5:=Bool.eq_false_iff.mpr c5
   subst c5
   rw [if_neg (show ¬ (false=true) by decide)] at H;try dsimp only at H
   have H':=aj.mk H
   clear H
   go_wp2_with (first|((with_reducible refine aA (f:=174) rfl ?_);refine aI (some 7) rfl rfl Tryz.func174 (by kernel_rfl) rfl #[.int .i64 a0,.int .i64 a1] rfl zL ?_;(with_reducible refine (xJ.calls a0 a1 false _ A4.out).mono ?_);rintro e w' ⟨rfl,⟨nd,rfl⟩⟩;refine ⟨_,rfl,?_⟩))
   go_meet
   case rel=>exact ⟨_,(true),zT,H',⟨by first|omega|exact Nat.le_refl _⟩,⟨zB⟩⟩
 case rest =>
  clear HC3
  obtain ⟨kq,ako,rfl,HA,HJ2,HB⟩:=hcut
  cases kq with
  | zero=>exact absurd HA.out (by simp [fA.j0])
  | succ kj2 =>
   have H:=HA.out
   clear HA
   simp only [fA.j0] at H
   by_cases c8:ako=true
   ·subst c8
    rw [if_pos rfl] at H;try dsimp only at H
    obtain rfl:=Option.some.inj H
    go_wp2
    go_ret
    exact ⟨zS,zB⟩
   ·replace c8:=Bool.eq_false_iff.mpr c8
    subst c8
    rw [if_neg (show ¬ (false=true) by decide)] at H;try dsimp only at H
    replace H:=zO H
    obtain ⟨al4,A9,H⟩:=H
    try dsimp only at H
    replace H:=zO H
    obtain ⟨t159,A10,H⟩:=H
    try dsimp only at H
    replace H:=zO H
    obtain ⟨t160,A11,H⟩:=H
    try dsimp only at H
    replace H:=zO H
    obtain ⟨ar0,A12,H⟩:=H
    try dsimp only at H
    obtain rfl:=Option.some.inj H
    go_wp2_with (first|((with_reducible refine aA (f:=177) rfl ?_);refine aI (some 18) rfl rfl Tryz.func177 (by kernel_rfl) rfl #[.int .i64 a0,.int .i64 a1] rfl zL ?_;(with_reducible refine (eY.calls kj2 a0 a1 al4 _ A9.out).mono ?_);rintro e w13 ⟨rfl,hb⟩;refine ⟨_,rfl,?_⟩;replace HB:=aj.mk (ak zB hb);(try clear hb))|((with_reducible refine aA (f:=177) rfl ?_);refine aI (some 22) rfl rfl Tryz.func177 (by kernel_rfl) rfl #[.int .i64 a0,.int .i64 (wrap64 (3*a1))] rfl zL ?_;(with_reducible refine (eY.calls kj2 a0 (wrap64 (3*a1)) t159 _ A10.out).mono ?_);rintro e w14 ⟨rfl,hb⟩;refine ⟨_,rfl,?_⟩;replace HB:=aj.mk (ak zB hb);(try clear hb))|((with_reducible refine aA (f:=176) rfl ?_);refine aI (some 23) rfl rfl Tryz.func176 (by kernel_rfl) rfl #[.int .i64 al4,.int .i64 t159,.int .i64 40] rfl zL ?_;(with_reducible refine (dI.calls kj2 al4 t159 40 t160 _ A11.out).mono ?_);rintro e w15 ⟨rfl,hb⟩;refine ⟨_,rfl,?_⟩;replace HB:=aj.mk (ak zB hb);(try clear hb))|((with_reducible refine aA (f:=100) rfl ?_);refine aI (some 24) rfl rfl Tryz.func100 (by kernel_rfl) rfl #[.int .i64 t160,.int .i64 10] rfl zL ?_;(with_reducible refine (nJ.calls t160 10 ar0 _ A12.out).mono ?_);rintro e w' ⟨rfl,⟨nd,rfl⟩⟩;refine ⟨_,rfl,?_⟩))
    go_ret
    exact ⟨zS,zB⟩
def nX.f (k:Nat) (a0 a1 a2 a3 a4:Int):Option (Int):=if a0=0 then ((bg.f k (wrap64 ((mn (wrap64 ((wrap64 (a3+1))*a1)) (wrap64 ((wrap64 (a4+1))*a2))) - (mx (wrap64 (a3*a1)) (wrap64 (a4*a2))))) 1073741824 a1).bind fun t162=>(some t162)) else (if a0=1 then ((fV.f k (wrap64 ((wrap64 ((wrap64 ((wrap64 (2*a2))*a4)) - (wrap64 ((wrap64 ((wrap64 (2*a3))+1))*a1))))+a2)) (wrap64 (2*(mx a1 a2)))).bind fun al5=>(some al5)) else ((fA.f k (wrap64 ((wrap64 ((wrap64 ((wrap64 (2*a2))*a4)) - (wrap64 ((wrap64 ((wrap64 (2*a3))+1))*a1))))+a2)) (wrap64 (2*(mx a1 a2)))).bind fun t164=>(some t164)))
theorem nX.mono:∀ a0 a1 a2 a3 a4 k,LeO (nX.f k a0 a1 a2 a3 a4) (nX.f (k+1) a0 a1 a2 a3 a4):=by
 intro a0 a1 a2 a3 a4 k
 unfold nX.f
 repeat' (with_reducible first|exact fV.mono _ _ _|exact fA.mono _ _ _|exact bg.mono _ _ _ _|exact zM|refine LeO.ite ?_ ?_|refine LeO.bind ?_ (fun _ => ?_))
set_option maxHeartbeats 8000000 in
set_option maxRecDepth 100000 in
theorem nX.calls (k:Nat) (a0 a1 a2 a3 a4 r:Int) (w:World) (h:nX.f k a0 a1 a2 a3 a4=some r) :
  Calls Tryz.prog 129 #[.int .i64 a0,.int .i64 a1,.int .i64 a2,.int .i64 a3,.int .i64 a4] w fun e w'=>e = .returned (.int .i64 r)∧Below w.heap.size w w':=by
 have HB:=aj.mk (Below.refl w.heap.size w)
 have H:=h
 clear h
 unfold nX.f at H
 by_cases c6:a0=0
 ·rw [if_pos c6] at H
  have iJ:(a0 == 0)=true:=beq_iff_eq.mpr c6
  have vS:(a0 != 0)=false:=bne_eq_false_iff_eq.mpr c6
  clear c6
  obtain ⟨ji7,yJ⟩:∃ j_:Int,(mn (wrap64 ((wrap64 (a3+1))*a1)) (wrap64 ((wrap64 (a4+1))*a2)))=j_:=⟨_,rfl⟩
  replace H:((bg.f k (wrap64 ((ji7) - (mx (wrap64 (a3*a1)) (wrap64 (a4*a2))))) 1073741824 a1).bind fun t162=>(some t162))=some r:=by first|(rw [yJ] at H;exact H)|(simp only [yJ] at H ⊢;exact H)
  have axn:(if (wrap64 ((wrap64 (a4+1))*a2)) < (wrap64 ((wrap64 (a3+1))*a1)) then (wrap64 ((wrap64 (a4+1))*a2)) else (wrap64 ((wrap64 (a3+1))*a1)))=ji7:=yJ
  obtain ⟨ji8,qX⟩:∃ j_:Int,(mx (wrap64 (a3*a1)) (wrap64 (a4*a2)))=j_:=⟨_,rfl⟩
  replace H:((bg.f k (wrap64 ((ji7) - (ji8))) 1073741824 a1).bind fun t162=>(some t162))=some r:=by first|(rw [qX] at H;exact H)|(simp only [qX] at H ⊢;exact H)
  have ata:(if (wrap64 (a3*a1)) < (wrap64 (a4*a2)) then (wrap64 (a4*a2)) else (wrap64 (a3*a1)))=ji8:=qX
  replace H:=zO H
  obtain ⟨t162,A9,H⟩:=H
  try dsimp only at H
  obtain rfl:=Option.some.inj H
  go_enter Tryz.func129,Tryz.ntmps129
  go_wp2_with (first|((with_reducible refine aA (f:=130) rfl ?_);refine aI (some 35) rfl rfl Tryz.func130 (by kernel_rfl) rfl #[.int .i64 (wrap64 ((ji7) - (ji8))),.int .i64 1073741824,.int .i64 a1] rfl (by (try simp only [List.map_toArray,List.map_cons,List.map_nil]);first|done|(simp only [yJ,qX];rfl)|rfl|(simp only [List.length_drop,List.length_take];rfl)) ?_;(with_reducible refine (bg.calls k (wrap64 ((ji7) - (ji8))) 1073741824 a1 t162 _ A9.out).mono ?_);rintro e w' ⟨rfl,⟨nd,rfl⟩⟩;refine ⟨_,rfl,?_⟩))
  go_ret
  exact ⟨by first|rfl|(simp [bT,bU] <;> rfl)|(simp only [← yJ,← qX];first|rfl|(simp [bT,bU] <;> rfl))|(simp [*,bT,bU] <;> rfl),zB⟩
 ·rw [if_neg c6] at H
  have iJ:(a0 == 0)=false:=beq_eq_false_iff_ne.mpr c6
  have vS:(a0 != 0)=true:=bne_iff_ne.mpr c6
  obtain ⟨dK,kE⟩:∃ j_:Int,(mx a1 a2)=j_:=⟨_,rfl⟩
  replace H:(if a0=1 then ((fV.f k (wrap64 ((wrap64 ((wrap64 ((wrap64 (2*a2))*a4)) - (wrap64 ((wrap64 ((wrap64 (2*a3))+1))*a1))))+a2)) (wrap64 (2*(dK)))).bind fun al5=>(some al5)) else ((fA.f k (wrap64 ((wrap64 ((wrap64 ((wrap64 (2*a2))*a4)) - (wrap64 ((wrap64 ((wrap64 (2*a3))+1))*a1))))+a2)) (wrap64 (2*(dK)))).bind fun t164=>(some t164)))=some r:=by first|(rw [kE] at H;exact H)|(simp only [kE] at H ⊢;exact H)
  have alL:(if a1 < a2 then a2 else a1)=dK:=kE
  by_cases c11:a0=1
  ·rw [if_pos c11] at H
   have jf:(a0 == 1)=true:=beq_iff_eq.mpr c11
   have aag:(a0 != 1)=false:=bne_eq_false_iff_eq.mpr c11
   clear c11
   replace H:=zO H
   obtain ⟨al5,A12,H⟩:=H
   try dsimp only at H
   obtain rfl:=Option.some.inj H
   go_enter Tryz.func129,Tryz.ntmps129
   go_wp2_with (first|((with_reducible refine aA (f:=108) rfl ?_);refine aI (some 56) rfl rfl Tryz.func108 (by kernel_rfl) rfl #[.int .i64 (wrap64 ((wrap64 ((wrap64 ((wrap64 (2*a2))*a4)) - (wrap64 ((wrap64 ((wrap64 (2*a3))+1))*a1))))+a2)),.int .i64 (wrap64 (2*(dK)))] rfl (by (try simp only [List.map_toArray,List.map_cons,List.map_nil]);first|done|(simp only [kE];rfl)|(simp only [Int.tdiv_eq_ediv_of_nonneg hji10l];rfl)|rfl|(simp only [List.length_drop,List.length_take];rfl)) ?_;(with_reducible refine (fV.calls k (wrap64 ((wrap64 ((wrap64 ((wrap64 (2*a2))*a4)) - (wrap64 ((wrap64 ((wrap64 (2*a3))+1))*a1))))+a2)) (wrap64 (2*(dK))) al5 _ A12.out).mono ?_);rintro e w13 ⟨rfl,hb⟩;refine ⟨_,rfl,?_⟩;replace HB:=aj.mk (ak zB hb);(try clear hb)))
   go_ret
   exact ⟨by first|rfl|(simp [bT,bU] <;> rfl)|(simp only [← kE];first|rfl|(simp [bT,bU] <;> rfl))|(simp [*,bT,bU] <;> rfl),zB⟩
  ·rw [if_neg c11] at H
   have jf:(a0 == 1)=false:=beq_eq_false_iff_ne.mpr c11
   have aag:(a0 != 1)=true:=bne_iff_ne.mpr c11
   replace H:=zO H
   obtain ⟨t164,A14,H⟩:=H
   try dsimp only at H
   obtain rfl:=Option.some.inj H
   go_enter Tryz.func129,Tryz.ntmps129
   go_wp2_with (first|((with_reducible refine aA (f:=153) rfl ?_);refine aI (some 59) rfl rfl Tryz.func153 (by kernel_rfl) rfl #[.int .i64 (wrap64 ((wrap64 ((wrap64 ((wrap64 (2*a2))*a4)) - (wrap64 ((wrap64 ((wrap64 (2*a3))+1))*a1))))+a2)),.int .i64 (wrap64 (2*(dK)))] rfl (by (try simp only [List.map_toArray,List.map_cons,List.map_nil]);first|done|(simp only [kE];rfl)|(simp only [Int.tdiv_eq_ediv_of_nonneg hji10l];rfl)|rfl|(simp only [List.length_drop,List.length_take];rfl)) ?_;(with_reducible refine (fA.calls k (wrap64 ((wrap64 ((wrap64 ((wrap64 (2*a2))*a4)) - (wrap64 ((wrap64 ((wrap64 (2*a3))+1))*a1))))+a2)) (wrap64 (2*(dK))) t164 _ A14.out).mono ?_);rintro e w15 ⟨rfl,hb⟩;refine ⟨_,rfl,?_⟩;replace HB:=aj.mk (ak zB hb);(try clear hb)))
   go_ret
   exact ⟨by first|rfl|(simp [bT,bU] <;> rfl)|(simp only [← kE];first|rfl|(simp [bT,bU] <;> rfl))|(simp [*,bT,bU] <;> rfl),zB⟩
def iK.l0:Nat→Int→Int→Int→Int→Int→List Int→Int→Int→Option (Int × List Int)
 | 0,_,_,_,_,_,_,_,_=>none
 | k+1,x0,x1,x2,x3,x8,x9,x20,x21=>if x21 < x20 then ((nX.f k x0 x1 x2 x3 (wrap64 (x8+x21))).bind fun t167=>(if x9.length < 17592186044416 then (iK.l0 k x0 x1 x2 x3 x8 (x9 ++ [t167]) x20 (wrap64 (x21+1))) else (none))) else (some (x8,x9))
def iK.f (k:Nat) (a0 a1 a2 a3:Int):Option (Int × List Int):=(lF.f k a0 a1 a2 a3).bind fun atf=>(iK.l0 k a0 a1 a2 a3 atf.1 ([]:List Int) atf.2 0)
theorem iK.jl:∀ k,(∀ y0 y1 y2 y3 y4 y5 y6 y7,LeO (iK.l0 k y0 y1 y2 y3 y4 y5 y6 y7) (iK.l0 (k+1) y0 y1 y2 y3 y4 y5 y6 y7))
 | 0=>fun _ _ _ _ _ _ _ _ r h=>by simp [iK.l0] at h
 | k+1=>by
  have ih0:=iK.jl k
  ·intro y0 y1 y2 y3 y4 y5 y6 y7
   unfold iK.l0
   repeat' (with_reducible first|exact ih0 _ _ _ _ _ _ _ _|exact lF.mono _ _ _ _ _|exact nX.mono _ _ _ _ _ _|exact zM|refine LeO.ite ?_ ?_|refine LeO.bind ?_ (fun _ => ?_))
theorem iK.mono:∀ a0 a1 a2 a3 k,LeO (iK.f k a0 a1 a2 a3) (iK.f (k+1) a0 a1 a2 a3):=by
 intro a0 a1 a2 a3 k
 have ih0:=iK.jl k
 unfold iK.f
 repeat' (with_reducible first|exact ih0 _ _ _ _ _ _ _ _|exact lF.mono _ _ _ _ _|exact nX.mono _ _ _ _ _ _|exact zM|refine LeO.ite ?_ ?_|refine LeO.bind ?_ (fun _ => ?_))
set_option maxHeartbeats 8000000 in
set_option maxRecDepth 100000 in
theorem iK.calls (k:Nat) (a0 a1 a2 a3 r1:Int) (r2:List Int) (w:World) (hG:GL w) (h:iK.f k a0 a1 a2 a3=some (r1,r2)) :
  Calls Tryz.prog 107 #[.int .i64 a0,.int .i64 a1,.int .i64 a2,.int .i64 a3] w fun e w'=>∃ v1_:Value,e = .returned (.tuple #[.int .i64 r1,v1_])∧Kd.R (Kd.int .i64) 2 w' w.heap.size (fun _=>True) v1_ r2∧Below w.heap.size w w':=by
 have HB:=aj.mk (Below.refl w.heap.size w)
 have H:=h
 clear h
 unfold iK.f at H
 replace H:=zO H
 obtain ⟨⟨al6,aoP⟩,A5,H⟩:=H
 try dsimp only at H
 have H':=aj.mk H
 clear H
 go_enter Tryz.func107,Tryz.ntmps107
 go_wp2_with (first|((with_reducible refine aA (f:=128) rfl ?_);refine aI (some 17) rfl rfl Tryz.func128 (by kernel_rfl) rfl #[.int .i64 a0,.int .i64 a1,.int .i64 a2,.int .i64 a3] rfl zL ?_;(with_reducible refine (lF.calls k a0 a1 a2 a3 al6 aoP _ (by exact GL.below hG (by repeat (first|(with_reducible first|exact HB.out|apply aV|apply aN|apply bf)|exact HB.out|exact Below.refl _ _))) A5.out).mono ?_);rintro e w6 ⟨rfl,hb⟩;refine ⟨_,rfl,?_⟩;replace HB:=aj.mk (ak zB hb);(try clear hb)))
 go_loopg [9,21] k (fun kq v9 v21 w'=>∃ (pq:List Int) (xA:Int),v21 = .int .i64 xA∧aj (iK.l0 kq a0 a1 a2 a3 al6 pq aoP xA=some (r1,r2))∧aj (kq≤k)∧aj (Kd.R (Kd.int .i64) 2 w' w.heap.size (fun _=>True) v9 pq)∧aj (Below w.heap.size w w'))
 case atStart=>exact ⟨(([]:List Int)),(0),zT,H',⟨Nat.le_refl _⟩,⟨by first|exact Kd.kS _ _ _ _ _|exact Kd.pz _ _ _ _ _|exact Kd.nM _ _ _ _ _|exact Kd.pF _ _ _ _ _|exact Kd.oH _ _ _ _ _⟩,⟨zB⟩⟩
 case round =>
  clear H'
  obtain ⟨pq,xA,rfl,HA,HK1,aoQ,HB⟩:=hrel
  cases gk with
  | zero=>exact absurd HA.out (by simp [iK.l0])
  | succ k1 =>
   have H:=HA.out
   clear HA
   simp only [iK.l0] at H
   by_cases c7:xA < aoP
   ·rw [if_pos c7] at H
    have jI:=decide_eq_true c7
    clear c7
    replace H:=zO H
    obtain ⟨t167,A8,H⟩:=H
    try dsimp only at H
    by_cases c9:pq.length < 17592186044416
    ·rw [if_pos c9] at H
     have ayQ:=aj.mk c9
     clear c9
     obtain ⟨y168,hy168⟩:∃ y_:List Int,y_=(pq ++ [t167]):=⟨_,rfl⟩
     replace H:(iK.l0 k1 a0 a1 a2 a3 al6 y168 aoP (wrap64 (xA+1)))=some (r1,r2):=by first|(rw [hy168];with_reducible exact H)|(have H2_:=(Option.bind_some _ _).symm.trans H;rw [hy168];with_reducible exact H2_)|(have H2_:=(Option.bind_some _ _).symm.trans H;with_reducible exact H2_)|with_reducible exact H|(rw [hy168];exact H)|exact H
     have axt:=aj.mk hy168
     clear hy168
     have H':=aj.mk H
     clear H
     go_wp2_with (first|((with_reducible refine aA (f:=129) rfl ?_);refine aI (some 32) rfl rfl Tryz.func129 (by kernel_rfl) rfl #[.int .i64 a0,.int .i64 a1,.int .i64 a2,.int .i64 a3,.int .i64 (wrap64 (al6+xA))] rfl zL ?_;(with_reducible refine (nX.calls k1 a0 a1 a2 a3 (wrap64 (al6+xA)) t167 _ A8.out).mono ?_);rintro e w10 ⟨rfl,hb⟩;refine ⟨_,rfl,?_⟩;obtain ⟨aoQ,HB⟩:=zA2 (Kd.ji (by (with_reducible repeat (first|apply Kd.aK|apply Kd.aQ|apply Kd.aW));exact aoQ.out) hb) (ak zB hb);(try clear hb))|((with_reducible refine jq (b := .append) (xs := #[.tmp 24,.tmp 33]) rfl ?_);at_builtin;refine Kd.kV (Kd.int .i64) (w0:=w) w.heap.size rfl (.tmp 24) (.tmp 33) 44 2 (.int .i64 0) 8 rfl Tryz.underlying44 wY rfl (by decide) (by omega) u9 pq t167 [.int .i64 t167] (fun _=>True) (fun _=>False) rfl rfl ?aP (fun _ hk=>hk.elim) ?aF ?aO ?aB ?aS ?aL ?_;(case aP=>exact rfl);(case aB=>exact zB);(case aF=>exact (fun _ _=>trivial));(case aO=>exact (by (with_reducible repeat (first|apply Kd.aK|apply Kd.aQ|apply Kd.aW));exact aoQ.out));(case aS=>exact (bM zB));(case aL=>have:=ayQ.out;omega);intro aD1 w11 ho hb hg hat;rw [← axt.out] at ho;obtain ⟨HB,axu⟩:=zA2 hb ho;clear ho hb hg hat))
     go_roundg k1
     case measure=>have:=HK1.out;omega
     case rel=>exact ⟨(y168),(wrap64 (xA+1)),zT,H',⟨by have:=HK1.out;omega⟩,⟨by (with_reducible repeat (first|apply Kd.aK|apply Kd.aQ|apply Kd.aW));exact axu.out⟩,⟨zB⟩⟩
    ·rw [if_neg c9] at H
     exact absurd H (by simp)
   ·rw [if_neg c7] at H
    have jI:=decide_eq_false c7
    clear c7
    simp only [Option.some.injEq,Prod.mk.injEq] at H
    obtain ⟨rfl,rfl⟩:=H
    go_wp2
    go_ret2
    exact ⟨_,zS,by (with_reducible repeat (first|apply Kd.aK|apply Kd.aQ|apply Kd.aW));exact aoQ.out,zB⟩
end Go.Proofs.YtpondkggmcmpfaaGreatDoor.QA
namespace Go.Proofs.YtpondkggmcmpfaaGreatDoor.QA
open Go.Proofs.YtpondkggmcmpfaaGreatDoor.T
open Go.RowKit Go.Proofs.YtpondkggmcmpfaaGreatDoorW.PrintWords Go.Proofs.YtpondkggmcmpfaaGreatDoorW.PrintLast Go.Proofs.YtpondkggmcmpfaaGreatDoorW.PrintMore
attribute [local go_sem] eG dX dY fF fG
set_option linter.unusedVariables false
set_option linter.unusedSimpArgs false
def l7.f (a0:Int):Option (Bool):=if a0≥1 then (some (decide (a0≤65536))) else (some false)
set_option maxHeartbeats 8000000 in
set_option maxRecDepth 100000 in
theorem l7.calls (a0:Int) (r:Bool) (w:World) (h:l7.f a0=some r) :
  Calls Tryz.prog 111 #[.int .i64 a0] w fun e w'=>e = .returned (.bool r)∧dH w w':=by
 have H:=h
 clear h
 unfold l7.f at H
 by_cases c2:a0≥1
 ·rw [if_pos c2] at H
  have lS:=decide_eq_true c2
  clear c2
  obtain rfl:=Option.some.inj H
  go_enter Tryz.func111,Tryz.ntmps111
  go_wp2
  go_ret
  exact ⟨zT,zW⟩
 ·rw [if_neg c2] at H
  have lS:=decide_eq_false c2
  clear c2
  obtain rfl:=Option.some.inj H
  go_enter Tryz.func111,Tryz.ntmps111
  go_wp2
  go_ret
  exact ⟨zT,zW⟩
def kT.l0:Nat→Int→List Int→Int→Int→Option (Int)
 | 0,_,_,_,_=>none
 | k+1,x3,x6,x7,x8=>if x8 < x7 then (if 0≤x8 then (if x8 < (x6.length:Int) then ((vI.f k (rd x6 x8)).bind fun al7=>((lC.f k x3 al7).bind fun t182=>(kT.l0 k t182 x6 x7 (wrap64 (x8+1))))) else (none)) else (none)) else (some x3)
def kT.f (k:Nat) (l0:List Int):Option (Int):=kT.l0 k 0 l0 (l0.length:Int) 0
set_option maxHeartbeats 8000000 in
set_option maxRecDepth 100000 in
theorem kT.calls (k:Nat) (A0:Option Addr) (c0:Nat) (l0:List Int) (r:Int) (w:World) (hr0:Kd.C (Kd.int .i64) w A0 l0.length l0) (hc0:l0.length≤c0) (h:kT.f k l0=some r) :
  Calls Tryz.prog 138 #[.slice A0 l0.length c0] w fun e w'=>e = .returned (.int .i64 r)∧Below w.heap.size w w':=by
 have HR0:=aj.mk hr0
 have HC0:=aj.mk hc0
 clear hr0 hc0
 have HB:=aj.mk (Below.refl w.heap.size w)
 have H:=h
 clear h
 unfold kT.f at H
 have H':=aj.mk H
 clear H
 go_enter Tryz.func138,Tryz.ntmps138
 go_wp2
 go_loopg [3,8] k (fun kq v3 v8 w'=>∃ (oK:Int) (bC:Int),v3 = .int .i64 oK∧v8 = .int .i64 bC∧aj (kT.l0 kq oK l0 (l0.length:Int) bC=some r)∧aj (kq≤k)∧aj (Below w.heap.size w w'))
 case atStart=>exact ⟨(0),(0),zT,zT,H',⟨Nat.le_refl _⟩,⟨zB⟩⟩
 case round =>
  clear H'
  obtain ⟨oK,bC,rfl,rfl,HA,HK1,HB⟩:=hrel
  cases gk with
  | zero=>exact absurd HA.out (by simp [kT.l0])
  | succ k1 =>
   have H:=HA.out
   clear HA
   simp only [kT.l0] at H
   by_cases c2:bC < (l0.length:Int)
   ·rw [if_pos c2] at H
    have lS:=decide_eq_true c2
    clear c2
    by_cases c3:0≤bC
    ·rw [if_pos c3] at H
     have gq:=decide_eq_true c3
     clear c3
     by_cases c4:bC < (l0.length:Int)
     ·rw [if_pos c4] at H
      have gI:=decide_eq_true c4
      clear c4
      replace H:=zO H
      obtain ⟨al7,A5,H⟩:=H
      try dsimp only at H
      replace H:=zO H
      obtain ⟨t182,A6,H⟩:=H
      try dsimp only at H
      have H':=aj.mk H
      clear H
      have ar1:0≤(bC:Int):=of_decide_eq_true (by first|(with_reducible assumption)|assumption)
      have ar2:bC < (l0.length:Int):=of_decide_eq_true (by first|(with_reducible assumption)|assumption)
      obtain ⟨aC7,ayR,ajc⟩:=Kd.jV HR0.out bC ar1 ar2
      cases ayR
      replace ajc:=(HB.out.cell (World.block_lt_of_cell? w _ ajc)).trans ajc
      replace ar1:=eq_true ar1
      replace ar2:=eq_true ar2
      go_wp2_with (first|((with_reducible refine aA (f:=161) rfl ?_);refine aI (some 14) rfl rfl Tryz.func161 (by kernel_rfl) rfl #[.int .i64 (rd l0 bC)] rfl zL ?_;(with_reducible refine (vI.calls k1 (rd l0 bC) al7 _ A5.out).mono ?_);rintro e w7 ⟨rfl,hb⟩;refine ⟨_,rfl,?_⟩;replace HB:=aj.mk (ak zB hb);(try clear hb))|((with_reducible refine aA (f:=162) rfl ?_);refine aI (some 15) rfl rfl Tryz.func162 (by kernel_rfl) rfl #[.int .i64 oK,.int .i64 al7] rfl zL ?_;(with_reducible refine (lC.calls k1 oK al7 t182 _ A6.out).mono ?_);rintro e w' ⟨rfl,⟨nd,rfl⟩⟩;refine ⟨_,rfl,?_⟩))
      go_roundg k1
      case measure=>have:=HK1.out;omega
      case rel=>exact ⟨(t182),(wrap64 (bC+1)),zT,zT,H',⟨by have:=HK1.out;omega⟩,⟨zB⟩⟩
     ·rw [if_neg c4] at H
      exact absurd H (by simp)
    ·rw [if_neg c3] at H
     exact absurd H (by simp)
   ·rw [if_neg c2] at H
    have lS:=decide_eq_false c2
    clear c2
    obtain rfl:=Option.some.inj H
    go_wp2
    go_ret
    exact ⟨zS,zB⟩
def iP.l0:Nat→Int→Int→Int→Int→Int→Option (Int)
 | 0,_,_,_,_,_=>none
 | k+1,x3,x4,x5,x6,x14=>if x14 < 16 then ((bg.f k x6 x4 (wrap64 ((wrap64 (x14+1))*1099511627776))).bind fun t183=>(if (Int.tmod x14 2)=0 then (iP.l0 k x3 x4 (wrap64 (x5 - t183)) t183 (wrap64 (x14+1))) else (iP.l0 k x3 x4 (wrap64 (x5+t183)) t183 (wrap64 (x14+1))))) else ((nJ.f x5 x3).bind fun ar4=>(some ar4))
def iP.f (k:Nat) (a0:Int):Option (Int):=iP.l0 k (wrap64 ((mx 0 a0) / 762123384786)) ((mx 0 a0) % 762123384786) 1099511627776 1099511627776 0
theorem iP.jl:∀ k,(∀ y0 y1 y2 y3 y4,LeO (iP.l0 k y0 y1 y2 y3 y4) (iP.l0 (k+1) y0 y1 y2 y3 y4))
 | 0=>fun _ _ _ _ _ r h=>by simp [iP.l0] at h
 | k+1=>by
  have ih0:=iP.jl k
  ·intro y0 y1 y2 y3 y4
   unfold iP.l0
   repeat' (with_reducible first|exact ih0 _ _ _ _ _|exact bg.mono _ _ _ _|exact zM|refine LeO.ite ?_ ?_|refine LeO.bind ?_ (fun _ => ?_))
theorem iP.mono:∀ a0 k,LeO (iP.f k a0) (iP.f (k+1) a0):=by
 intro a0 k
 have ih0:=iP.jl k
 unfold iP.f
 repeat' (with_reducible first|exact ih0 _ _ _ _ _|exact bg.mono _ _ _ _|exact zM|refine LeO.ite ?_ ?_|refine LeO.bind ?_ (fun _ => ?_))
set_option maxHeartbeats 8000000 in
set_option maxRecDepth 100000 in
theorem iP.calls (k:Nat) (a0 r:Int) (w:World) (h:iP.f k a0=some r) :
  Calls Tryz.prog 167 #[.int .i64 a0] w fun e w'=>e = .returned (.int .i64 r)∧Below w.heap.size w w':=by
 have HB:=aj.mk (Below.refl w.heap.size w)
 have H:=h
 clear h
 unfold iP.f at H
 obtain ⟨ji2,aaQ⟩:∃ j_:Int,(mx 0 a0)=j_:=⟨_,rfl⟩
 replace H:(iP.l0 k (wrap64 ((ji2) / 762123384786)) ((ji2) % 762123384786) 1099511627776 1099511627776 0)=some r:=by first|(rw [aaQ] at H;exact H)|(simp only [aaQ] at H ⊢;exact H)
 (try (have aoR:0≤ji2:=by (rw [← aaQ];unfold mx;(repeat' split) <;> omega)))
 (try (have aC8:0≤ji2:=by omega))
 have axl:(if 0 < a0 then a0 else 0)=ji2:=aaQ
 have H':=aj.mk H
 clear H
 go_enter Tryz.func167,Tryz.ntmps167
 go_wp2
 go_loopg [5,6,14] k (fun kq v5 v6 v14 w'=>∃ (agW:Int) (qK:Int) (wo:Int),v5 = .int .i64 agW∧v6 = .int .i64 qK∧v14 = .int .i64 wo∧aj (iP.l0 kq (wrap64 ((ji2) / 762123384786)) ((ji2) % 762123384786) agW qK wo=some r)∧aj (kq≤k)∧aj (Below w.heap.size w w'))
 case atStart=>exact ⟨(1099511627776),(1099511627776),(0),zT,zT,zT,H',⟨Nat.le_refl _⟩,⟨zB⟩⟩
 case round =>
  clear H'
  obtain ⟨agW,qK,wo,rfl,rfl,rfl,HA,HK1,HB⟩:=hrel
  cases gk with
  | zero=>exact absurd HA.out (by simp [iP.l0])
  | succ k1 =>
   have H:=HA.out
   clear HA
   simp only [iP.l0] at H
   by_cases c3:wo < 16
   ·rw [if_pos c3] at H
    have gq:=decide_eq_true c3
    clear c3
    replace H:=zO H
    obtain ⟨t183,A4,H⟩:=H
    try dsimp only at H
    by_cases c5:(Int.tmod wo 2)=0
    ·rw [if_pos c5] at H
     have iR:((Int.tmod wo 2) == 0)=true:=beq_iff_eq.mpr c5
     have acn:((Int.tmod wo 2) != 0)=false:=bne_eq_false_iff_eq.mpr c5
     clear c5
     have H':=aj.mk H
     clear H
     go_wp2_with (first|((with_reducible refine aA (f:=130) rfl ?_);refine aI (some 22) rfl rfl Tryz.func130 (by kernel_rfl) rfl #[.int .i64 qK,.int .i64 ((ji2) % 762123384786),.int .i64 (wrap64 ((wrap64 (wo+1))*1099511627776))] rfl (by (try simp only [List.map_toArray,List.map_cons,List.map_nil]);first|done|(simp only [aaQ];rfl)|(simp only [Int.tdiv_eq_ediv_of_nonneg aoR];rfl)|rfl|(simp only [List.length_drop,List.length_take];rfl)) ?_;(with_reducible refine (bg.calls k1 qK ((ji2) % 762123384786) (wrap64 ((wrap64 (wo+1))*1099511627776)) t183 _ A4.out).mono ?_);rintro e w' ⟨rfl,⟨nd,rfl⟩⟩;refine ⟨_,rfl,?_⟩))
     go_roundg k1
     case measure=>have:=HK1.out;omega
     case rel=>exact ⟨(wrap64 (agW - t183)),(t183),(wrap64 (wo+1)),zT,zT,zT,H',⟨by have:=HK1.out;omega⟩,⟨zB⟩⟩
    ·rw [if_neg c5] at H
     have iR:((Int.tmod wo 2) == 0)=false:=beq_eq_false_iff_ne.mpr c5
     have acn:((Int.tmod wo 2) != 0)=true:=bne_iff_ne.mpr c5
     have H':=aj.mk H
     clear H
     go_wp2_with (first|((with_reducible refine aA (f:=130) rfl ?_);refine aI (some 22) rfl rfl Tryz.func130 (by kernel_rfl) rfl #[.int .i64 qK,.int .i64 ((ji2) % 762123384786),.int .i64 (wrap64 ((wrap64 (wo+1))*1099511627776))] rfl (by (try simp only [List.map_toArray,List.map_cons,List.map_nil]);first|done|(simp only [aaQ];rfl)|(simp only [Int.tdiv_eq_ediv_of_nonneg aoR];rfl)|rfl|(simp only [List.length_drop,List.length_take];rfl)) ?_;(with_reducible refine (bg.calls k1 qK ((ji2) % 762123384786) (wrap64 ((wrap64 (wo+1))*1099511627776)) t183 _ A4.out).mono ?_);rintro e w' ⟨rfl,⟨nd,rfl⟩⟩;refine ⟨_,rfl,?_⟩))
     go_roundg k1
     case measure=>have:=HK1.out;omega
     case rel=>exact ⟨(wrap64 (agW+t183)),(t183),(wrap64 (wo+1)),zT,zT,zT,H',⟨by have:=HK1.out;omega⟩,⟨zB⟩⟩
   ·rw [if_neg c3] at H
    have gq:=decide_eq_false c3
    clear c3
    replace H:=zO H
    obtain ⟨ar4,A6,H⟩:=H
    try dsimp only at H
    obtain rfl:=Option.some.inj H
    go_wp2_with (first|((with_reducible refine aA (f:=100) rfl ?_);refine aI (some 35) rfl rfl Tryz.func100 (by kernel_rfl) rfl #[.int .i64 agW,.int .i64 (wrap64 ((ji2) / 762123384786))] rfl (by (try simp only [List.map_toArray,List.map_cons,List.map_nil]);first|done|(simp only [aaQ];rfl)|(simp only [Int.tdiv_eq_ediv_of_nonneg aoR];rfl)|rfl|(simp only [List.length_drop,List.length_take];rfl)) ?_;(with_reducible refine (nJ.calls agW (wrap64 ((ji2) / 762123384786)) ar4 _ A6.out).mono ?_);rintro e w' ⟨rfl,⟨nd,rfl⟩⟩;refine ⟨_,rfl,?_⟩))
    go_ret
    exact ⟨by first|rfl|(simp [bT,bU] <;> rfl)|(simp only [← aaQ];first|rfl|(simp [bT,bU] <;> rfl))|(simp [*,bT,bU] <;> rfl),zB⟩
def nO.f (k:Nat) (a0 a1:Int):Option (Int):=if a1 < 1 then (some 9223372036854775807) else (if a1 > 4194304 then (some 9223372036854775807) else (if a0 < (-16384) then (some 9223372036854775807) else (if a0 > 16384 then (some 9223372036854775807) else ((bg.f k (wrap64 ((wrap64 (a0*a0))*2147483648)) 1099511627776 (wrap64 (a1*a1))).bind fun ar5=>(some ar5)))))
theorem nO.mono:∀ a0 a1 k,LeO (nO.f k a0 a1) (nO.f (k+1) a0 a1):=by
 intro a0 a1 k
 unfold nO.f
 repeat' (with_reducible first|exact bg.mono _ _ _ _|exact zM|refine LeO.ite ?_ ?_|refine LeO.bind ?_ (fun _ => ?_))
set_option maxHeartbeats 8000000 in
set_option maxRecDepth 100000 in
theorem nO.calls (k:Nat) (a0 a1 r:Int) (w:World) (h:nO.f k a0 a1=some r) :
  Calls Tryz.prog 168 #[.int .i64 a0,.int .i64 a1] w fun e w'=>e = .returned (.int .i64 r)∧dH w w':=by
 have H:=h
 clear h
 unfold nO.f at H
 by_cases c3:a1 < 1
 ·rw [if_pos c3] at H
  have gq:=decide_eq_true c3
  clear c3
  obtain rfl:=Option.some.inj H
  go_enter Tryz.func168,Tryz.ntmps168
  go_wp2
  go_ret
  exact ⟨zT,zW⟩
 ·rw [if_neg c3] at H
  have gq:=decide_eq_false c3
  clear c3
  by_cases c4:a1 > 4194304
  ·rw [if_pos c4] at H
   have gI:=decide_eq_true c4
   clear c4
   obtain rfl:=Option.some.inj H
   go_enter Tryz.func168,Tryz.ntmps168
   go_wp2
   go_ret
   exact ⟨zT,zW⟩
  ·rw [if_neg c4] at H
   have gI:=decide_eq_false c4
   clear c4
   by_cases c5:a0 < (-16384)
   ·rw [if_pos c5] at H
    have iR:=decide_eq_true c5
    clear c5
    obtain rfl:=Option.some.inj H
    go_enter Tryz.func168,Tryz.ntmps168
    go_wp2
    go_ret
    exact ⟨zT,zW⟩
   ·rw [if_neg c5] at H
    have iR:=decide_eq_false c5
    clear c5
    by_cases c6:a0 > 16384
    ·rw [if_pos c6] at H
     have iJ:=decide_eq_true c6
     clear c6
     obtain rfl:=Option.some.inj H
     go_enter Tryz.func168,Tryz.ntmps168
     go_wp2
     go_ret
     exact ⟨zT,zW⟩
    ·rw [if_neg c6] at H
     have iJ:=decide_eq_false c6
     clear c6
     replace H:=zO H
     obtain ⟨ar5,A7,H⟩:=H
     try dsimp only at H
     obtain rfl:=Option.some.inj H
     go_enter Tryz.func168,Tryz.ntmps168
     go_wp2_with (first|((with_reducible refine aA (f:=130) rfl ?_);refine aI (some 26) rfl rfl Tryz.func130 (by kernel_rfl) rfl #[.int .i64 (wrap64 ((wrap64 (a0*a0))*2147483648)),.int .i64 1099511627776,.int .i64 (wrap64 (a1*a1))] rfl zL ?_;(with_reducible refine (bg.calls k (wrap64 ((wrap64 (a0*a0))*2147483648)) 1099511627776 (wrap64 (a1*a1)) ar5 _ A7.out).mono ?_);rintro e w' ⟨rfl,⟨nd,rfl⟩⟩;refine ⟨_,rfl,?_⟩))
     go_ret
     exact ⟨zT,zW⟩
def lG.f (k:Nat) (a0 a1:Int):Option (Int):=(nO.f k a0 a1).bind fun al8=>((iP.f k al8).bind fun al9=>((nJ.f al9 10).bind fun ar6=>(some ar6)))
theorem lG.mono:∀ a0 a1 k,LeO (lG.f k a0 a1) (lG.f (k+1) a0 a1):=by
 intro a0 a1 k
 unfold lG.f
 repeat' (with_reducible first|exact iP.mono _ _|exact nO.mono _ _ _|exact zM|refine LeO.ite ?_ ?_|refine LeO.bind ?_ (fun _ => ?_))
set_option maxHeartbeats 8000000 in
set_option maxRecDepth 100000 in
theorem lG.calls (k:Nat) (a0 a1 r:Int) (w:World) (h:lG.f k a0 a1=some r) :
  Calls Tryz.prog 137 #[.int .i64 a0,.int .i64 a1] w fun e w'=>e = .returned (.int .i64 r)∧Below w.heap.size w w':=by
 have HB:=aj.mk (Below.refl w.heap.size w)
 have H:=h
 clear h
 unfold lG.f at H
 replace H:=zO H
 obtain ⟨al8,A3,H⟩:=H
 try dsimp only at H
 replace H:=zO H
 obtain ⟨al9,A4,H⟩:=H
 try dsimp only at H
 replace H:=zO H
 obtain ⟨ar6,A5,H⟩:=H
 try dsimp only at H
 obtain rfl:=Option.some.inj H
 go_enter Tryz.func137,Tryz.ntmps137
 go_wp2_with (first|((with_reducible refine aA (f:=168) rfl ?_);refine aI (some 7) rfl rfl Tryz.func168 (by kernel_rfl) rfl #[.int .i64 a0,.int .i64 a1] rfl zL ?_;(with_reducible refine (nO.calls k a0 a1 al8 _ A3.out).mono ?_);rintro e w' ⟨rfl,⟨nd,rfl⟩⟩;refine ⟨_,rfl,?_⟩)|((with_reducible refine aA (f:=167) rfl ?_);refine aI (some 8) rfl rfl Tryz.func167 (by kernel_rfl) rfl #[.int .i64 al8] rfl zL ?_;(with_reducible refine (iP.calls k al8 al9 _ A4.out).mono ?_);rintro e w6 ⟨rfl,hb⟩;refine ⟨_,rfl,?_⟩;replace HB:=aj.mk (ak zB hb);(try clear hb))|((with_reducible refine aA (f:=100) rfl ?_);refine aI (some 9) rfl rfl Tryz.func100 (by kernel_rfl) rfl #[.int .i64 al9,.int .i64 10] rfl zL ?_;(with_reducible refine (nJ.calls al9 10 ar6 _ A5.out).mono ?_);rintro e w' ⟨rfl,⟨nd,rfl⟩⟩;refine ⟨_,rfl,?_⟩))
 go_ret
 exact ⟨zS,zB⟩
end Go.Proofs.YtpondkggmcmpfaaGreatDoor.QA
namespace Go.Proofs.YtpondkggmcmpfaaGreatDoor.QA
open Go.Proofs.YtpondkggmcmpfaaGreatDoor.T
open Go.RowKit Go.Proofs.YtpondkggmcmpfaaGreatDoorW.PrintWords Go.Proofs.YtpondkggmcmpfaaGreatDoorW.PrintLast Go.Proofs.YtpondkggmcmpfaaGreatDoorW.PrintMore
attribute [local go_sem] eG dX dY fF fG
set_option linter.unusedVariables false
set_option linter.unusedSimpArgs false
mutual
def bD.j0:Nat→Int→Bool→Option (List Int × Int)
 | 0,_,_=>none
 | k+1,x0,x12=>if x12=true then (some (([]:List Int),7)) else (bD.l0 k x0 ((wrap64 ((wrap64 ((wrap64 (3*x0))+65536)) - 1)) / 65536) ([]:List Int) (wrap64 (-((wrap64 ((wrap64 ((wrap64 (3*x0))+65536)) - 1)) / 65536))))
def bD.l0:Nat→Int→Int→List Int→Int→Option (List Int × Int)
 | 0,_,_,_,_=>none
 | k+1,x0,x4,x5,x6=>if x6≤x4 then ((lG.f k x6 x0).bind fun ajd=>(if x5.length < 17592186044416 then (bD.l0 k x0 x4 (x5 ++ [ajd]) (wrap64 (x6+1))) else (none))) else (some (x5,0))
end
def bD.f (k:Nat) (a0:Int):Option (List Int × Int):=if a0 < 1 then (bD.j0 k a0 true) else (bD.j0 k a0 (decide (a0 > 4194304)))
theorem bD.jl:∀ k,(∀ y0 y1,LeO (bD.j0 k y0 y1) (bD.j0 (k+1) y0 y1))∧(∀ y0 y1 y2 y3,LeO (bD.l0 k y0 y1 y2 y3) (bD.l0 (k+1) y0 y1 y2 y3))
 | 0=>⟨fun _ _ r h=>by simp [bD.j0] at h,fun _ _ _ _ r h=>by simp [bD.l0] at h⟩
 | k+1=>by
  obtain ⟨ih0,ih1⟩:=bD.jl k
  refine ⟨?_,?_⟩
  ·intro y0 y1
   unfold bD.j0
   repeat' (with_reducible first|exact ih0 _ _|exact ih1 _ _ _ _|exact lG.mono _ _ _|exact zM|refine LeO.ite ?_ ?_|refine LeO.bind ?_ (fun _ => ?_))
  ·intro y0 y1 y2 y3
   unfold bD.l0
   repeat' (with_reducible first|exact ih0 _ _|exact ih1 _ _ _ _|exact lG.mono _ _ _|exact zM|refine LeO.ite ?_ ?_|refine LeO.bind ?_ (fun _ => ?_))
theorem bD.mono:∀ a0 k,LeO (bD.f k a0) (bD.f (k+1) a0):=by
 intro a0 k
 obtain ⟨ih0,ih1⟩:=bD.jl k
 unfold bD.f
 repeat' (with_reducible first|exact ih0 _ _|exact ih1 _ _ _ _|exact lG.mono _ _ _|exact zM|refine LeO.ite ?_ ?_|refine LeO.bind ?_ (fun _ => ?_))
set_option maxHeartbeats 8000000 in
set_option maxRecDepth 100000 in
theorem bD.calls (k:Nat) (a0:Int) (r1:List Int) (r2:Int) (w:World) (h:bD.f k a0=some (r1,r2)) :
  Calls Tryz.prog 110 #[.int .i64 a0] w fun e w'=>∃ v0_:Value,e = .returned (.tuple #[v0_,.int .i64 r2])∧Kd.R (Kd.int .i64) 2 w' w.heap.size (fun _=>True) v0_ r1∧Below w.heap.size w w':=by
 have HB:=aj.mk (Below.refl w.heap.size w)
 have H:=h
 clear h
 unfold bD.f at H
 have HC2:=aj.mk H
 clear H
 go_enter Tryz.func110,Tryz.ntmps110
 go_upto_region 1 with (fail)
 go_cut [12] (fun v12 wc=>∃ (kq:Nat) (abQ:Bool),v12 = .bool abQ∧aj (bD.j0 kq a0 abQ=some (r1,r2))∧aj (kq≤k)∧aj (Below w.heap.size w wc))
 case first =>
  have H:=HC2.out
  clear HC2
  by_cases c3:a0 < 1
  ·rw [if_pos c3] at H
   have gq:=decide_eq_true c3
   clear c3
   (first|rw [gq]|(simp only [cZ,dB];rw [gq])|skip)
   have H':=aj.mk H
   clear H
   go_wp2
   go_meet
   case rel=>exact ⟨_,(true),zT,H',⟨by first|omega|exact Nat.le_refl _⟩,⟨zB⟩⟩
  ·rw [if_neg c3] at H
   have gq:=decide_eq_false c3
   clear c3
   (first|rw [gq]|(simp only [cZ,dB];rw [gq])|skip)
   have H':=aj.mk H
   clear H
   go_wp2
   go_meet
   case rel=>exact ⟨_,(decide (a0 > 4194304)),zT,H',⟨by first|omega|exact Nat.le_refl _⟩,⟨zB⟩⟩
 case rest =>
  clear HC2
  obtain ⟨kq,abQ,rfl,HA,HJ1,HB⟩:=hcut
  cases kq with
  | zero=>exact absurd HA.out (by simp [bD.j0])
  | succ kj1 =>
   have H:=HA.out
   clear HA
   simp only [bD.j0] at H
   by_cases c4:abQ=true
   ·subst c4
    rw [if_pos rfl] at H;try dsimp only at H
    simp only [Option.some.injEq,Prod.mk.injEq] at H
    obtain ⟨rfl,rfl⟩:=H
    go_wp2
    go_ret2
    exact ⟨_,zS,by first|exact Kd.kS _ _ _ _ _|exact Kd.pz _ _ _ _ _|exact Kd.nM _ _ _ _ _|exact Kd.pF _ _ _ _ _|exact Kd.oH _ _ _ _ _,zB⟩
   ·replace c4:=Bool.eq_false_iff.mpr c4
    subst c4
    rw [if_neg (show ¬ (false=true) by decide)] at H;try dsimp only at H
    have H':=aj.mk H
    clear H
    go_wp2
    go_loopg [5,6] kj1 (fun kq v5 v6 w'=>∃ (mP:List Int) (yF:Int),v6 = .int .i64 yF∧aj (bD.l0 kq a0 ((wrap64 ((wrap64 ((wrap64 (3*a0))+65536)) - 1)) / 65536) mP yF=some (r1,r2))∧aj (kq≤kj1)∧aj (Kd.R (Kd.int .i64) 2 w' w.heap.size (fun _=>True) v5 mP)∧aj (Below w.heap.size w w'))
    case atStart=>exact ⟨(([]:List Int)),(wrap64 (-((wrap64 ((wrap64 ((wrap64 (3*a0))+65536)) - 1)) / 65536))),zT,H',⟨Nat.le_refl _⟩,⟨by first|exact Kd.kS _ _ _ _ _|exact Kd.pz _ _ _ _ _|exact Kd.nM _ _ _ _ _|exact Kd.pF _ _ _ _ _|exact Kd.oH _ _ _ _ _⟩,⟨zB⟩⟩
    case round =>
     clear H'
     obtain ⟨mP,yF,rfl,HA,HK2,xZ,HB⟩:=hrel
     cases gk with
     | zero=>exact absurd HA.out (by simp [bD.l0])
     | succ k2 =>
      have H:=HA.out
      clear HA
      simp only [bD.l0] at H
      by_cases c5:yF≤((wrap64 ((wrap64 ((wrap64 (3*a0))+65536)) - 1)) / 65536)
      ·rw [if_pos c5] at H
       have iR:=decide_eq_true c5
       clear c5
       replace H:=zO H
       obtain ⟨ajd,A6,H⟩:=H
       try dsimp only at H
       by_cases c7:mP.length < 17592186044416
       ·rw [if_pos c7] at H
        have ayS:=aj.mk c7
        clear c7
        obtain ⟨avq,ah5⟩:∃ y_:List Int,y_=(mP ++ [ajd]):=⟨_,rfl⟩
        replace H:(bD.l0 k2 a0 ((wrap64 ((wrap64 ((wrap64 (3*a0))+65536)) - 1)) / 65536) avq (wrap64 (yF+1)))=some (r1,r2):=by first|(rw [ah5];with_reducible exact H)|(have H2_:=(Option.bind_some _ _).symm.trans H;rw [ah5];with_reducible exact H2_)|(have H2_:=(Option.bind_some _ _).symm.trans H;with_reducible exact H2_)|with_reducible exact H|(rw [ah5];exact H)|exact H
        have axv:=aj.mk ah5
        clear ah5
        have H':=aj.mk H
        clear H
        go_wp2_with (first|((with_reducible refine aA (f:=137) rfl ?_);refine aI (some 28) rfl rfl Tryz.func137 (by kernel_rfl) rfl #[.int .i64 yF,.int .i64 a0] rfl zL ?_;(with_reducible refine (lG.calls k2 yF a0 ajd _ A6.out).mono ?_);rintro e w8 ⟨rfl,hb⟩;refine ⟨_,rfl,?_⟩;obtain ⟨xZ,HB⟩:=zA2 (Kd.ji (by (with_reducible repeat (first|apply Kd.aK|apply Kd.aQ|apply Kd.aW));exact xZ.out) hb) (ak zB hb);(try clear hb))|((with_reducible refine jq (b := .append) (xs := #[.tmp 25,.tmp 29]) rfl ?_);at_builtin;refine Kd.kV (Kd.int .i64) (w0:=w) w.heap.size rfl (.tmp 25) (.tmp 29) 44 2 (.int .i64 0) 8 rfl Tryz.underlying44 wY rfl (by decide) (by omega) u5 mP ajd [.int .i64 ajd] (fun _=>True) (fun _=>False) rfl rfl ?aP (fun _ hk=>hk.elim) ?aF ?aO ?aB ?aS ?aL ?_;(case aP=>exact rfl);(case aB=>exact zB);(case aF=>exact (fun _ _=>trivial));(case aO=>exact (by (with_reducible repeat (first|apply Kd.aK|apply Kd.aQ|apply Kd.aW));exact xZ.out));(case aS=>exact (bM zB));(case aL=>have:=ayS.out;omega);intro aD2 w9 ho hb hg hat;rw [← axv.out] at ho;obtain ⟨HB,axw⟩:=zA2 hb ho;clear ho hb hg hat))
        go_roundg k2
        case measure=>have:=HJ1.out;have:=HK2.out;omega
        case rel=>exact ⟨(avq),(wrap64 (yF+1)),zT,H',⟨by have:=HJ1.out;have:=HK2.out;omega⟩,⟨by (with_reducible repeat (first|apply Kd.aK|apply Kd.aQ|apply Kd.aW));exact axw.out⟩,⟨zB⟩⟩
       ·rw [if_neg c7] at H
        exact absurd H (by simp)
      ·rw [if_neg c5] at H
       have iR:=decide_eq_false c5
       clear c5
       simp only [Option.some.injEq,Prod.mk.injEq] at H
       obtain ⟨rfl,rfl⟩:=H
       go_wp2
       go_ret2
       exact ⟨_,zS,by (with_reducible repeat (first|apply Kd.aK|apply Kd.aQ|apply Kd.aW));exact xZ.out,zB⟩
end Go.Proofs.YtpondkggmcmpfaaGreatDoor.QA
namespace Go.Proofs.YtpondkggmcmpfaaGreatDoor.QA
open Go.Proofs.YtpondkggmcmpfaaGreatDoor.T
open Go.RowKit Go.Proofs.YtpondkggmcmpfaaGreatDoorW.PrintWords Go.Proofs.YtpondkggmcmpfaaGreatDoorW.PrintLast Go.Proofs.YtpondkggmcmpfaaGreatDoorW.PrintMore
attribute [local go_sem] eG dX dY fF fG
set_option linter.unusedVariables false
set_option linter.unusedSimpArgs false
mutual
def fZ.j0:Nat→List Int→Int→Bool→Option (List Int × Int)
 | 0,_,_,_=>none
 | k+1,x0,x4,x26=>if x26=true then (some (([]:List Int),7)) else (fZ.l0 k x4 ([]:List Int) x0 (x0.length:Int) 0)
def fZ.l0:Nat→Int→List Int→List Int→Int→Int→Option (List Int × Int)
 | 0,_,_,_,_,_=>none
 | k+1,x4,x5,x27,x28,x29=>if x29 < x28 then (if 0≤x29 then (if x29 < (x27.length:Int) then ((bg.f k (rd x27 x29) 1073741824 x4).bind fun aje=>(if x5.length < 17592186044416 then (fZ.l0 k x4 (x5 ++ [aje]) x27 x28 (wrap64 (x29+1))) else (none))) else (none)) else (none)) else (some (x5,0))
end
def fZ.f (k:Nat) (l0:List Int):Option (List Int × Int):=(kT.f k l0).bind fun t193=>(if ((l0.length:Int) % 2)=0 then (fZ.j0 k l0 t193 true) else (if (l0.length:Int) > 1024 then (fZ.j0 k l0 t193 true) else (if t193 < 1 then (fZ.j0 k l0 t193 true) else (fZ.j0 k l0 t193 (decide (t193 > 1048576))))))
set_option maxHeartbeats 8000000 in
set_option maxRecDepth 100000 in
theorem fZ.calls (k:Nat) (A0:Option Addr) (c0:Nat) (l0 r1:List Int) (r2:Int) (w:World) (hr0:Kd.C (Kd.int .i64) w A0 l0.length l0) (hc0:l0.length≤c0) (h:fZ.f k l0=some (r1,r2)) :
  Calls Tryz.prog 127 #[.slice A0 l0.length c0] w fun e w'=>∃ v0_:Value,e = .returned (.tuple #[v0_,.int .i64 r2])∧Kd.R (Kd.int .i64) 2 w' w.heap.size (fun _=>True) v0_ r1∧Below w.heap.size w w':=by
 have HR0:=aj.mk hr0
 have HC0:=aj.mk hc0
 clear hr0 hc0
 have HB:=aj.mk (Below.refl w.heap.size w)
 have H:=h
 clear h
 unfold fZ.f at H
 replace H:=zO H
 obtain ⟨t193,A2,H⟩:=H
 try dsimp only at H
 have HC3:=aj.mk H
 clear H
 go_enter Tryz.func127,Tryz.ntmps127
 go_upto_region 2 with (first|((with_reducible refine aA (f:=138) rfl ?_);refine aI (some 9) rfl rfl Tryz.func138 (by kernel_rfl) rfl #[.slice A0 l0.length c0] rfl zL ?_;(with_reducible refine (kT.calls k _ _ l0 t193 _ ?iE ?iF A2.out).mono ?_);(case iE=>repeat (first|exact HR0.out|(with_reducible refine Kd.jd ?_ _)|(with_reducible refine Kd.jo ?_ _)|(with_reducible refine Kd.kC ?_)));(case iF=>exact HC0.out);rintro e w4 ⟨rfl,hb⟩;refine ⟨_,rfl,?_⟩;replace HB:=aj.mk (ak zB hb);(try clear hb)))
 (try simp only [Act.put,List.setIfInBounds_toArray,List.set_cons_zero,List.set_cons_succ])
 go_cut [26] (fun v26 wc=>∃ (kq:Nat) (abR:Bool),v26 = .bool abR∧aj (fZ.j0 kq l0 t193 abR=some (r1,r2))∧aj (kq≤k)∧aj (Below w.heap.size w wc))
 case first =>
  have H:=HC3.out
  clear HC3
  by_cases c5:((l0.length:Int) % 2)=0
  ·rw [if_pos c5] at H
   have iR:(((l0.length:Int) % 2) == 0)=true:=beq_iff_eq.mpr c5
   have acn:(((l0.length:Int) % 2) != 0)=false:=bne_eq_false_iff_eq.mpr c5
   clear c5
   (first|rw [iR]|(simp only [cZ,dB];rw [iR])|skip)
   have H':=aj.mk H
   clear H
   go_wp2
   go_meet
   case rel=>exact ⟨_,(true),zT,H',⟨by first|omega|exact Nat.le_refl _⟩,⟨zB⟩⟩
  ·rw [if_neg c5] at H
   have iR:(((l0.length:Int) % 2) == 0)=false:=beq_eq_false_iff_ne.mpr c5
   have acn:(((l0.length:Int) % 2) != 0)=true:=bne_iff_ne.mpr c5
   (first|rw [iR]|(simp only [cZ,dB];rw [iR])|skip)
   by_cases c6:(l0.length:Int) > 1024
   ·rw [if_pos c6] at H
    have iJ:=decide_eq_true c6
    have vS:decide (1024 < l0.length)=true:=decide_eq_true (by omega)
    clear c6
    have H':=aj.mk H
    clear H
    go_wp2
    go_meet
    case rel=>exact ⟨_,(true),zT,H',⟨by first|omega|exact Nat.le_refl _⟩,⟨zB⟩⟩
   ·rw [if_neg c6] at H
    have iJ:=decide_eq_false c6
    have vS:decide (1024 < l0.length)=false:=decide_eq_false (by omega)
    clear c6
    by_cases c7:t193 < 1
    ·rw [if_pos c7] at H
     have jI:=decide_eq_true c7
     clear c7
     have H':=aj.mk H
     clear H
     go_wp2
     go_meet
     case rel=>exact ⟨_,(true),zT,H',⟨by first|omega|exact Nat.le_refl _⟩,⟨zB⟩⟩
    ·rw [if_neg c7] at H
     have jI:=decide_eq_false c7
     clear c7
     have H':=aj.mk H
     clear H
     go_wp2
     go_meet
     case rel=>exact ⟨_,(decide (t193 > 1048576)),zT,H',⟨by first|omega|exact Nat.le_refl _⟩,⟨zB⟩⟩
 case rest =>
  clear HC3
  obtain ⟨kq,abR,rfl,HA,HJ2,HB⟩:=hcut
  cases kq with
  | zero=>exact absurd HA.out (by simp [fZ.j0])
  | succ kj2 =>
   have H:=HA.out
   clear HA
   simp only [fZ.j0] at H
   by_cases c8:abR=true
   ·subst c8
    rw [if_pos rfl] at H;try dsimp only at H
    simp only [Option.some.injEq,Prod.mk.injEq] at H
    obtain ⟨rfl,rfl⟩:=H
    go_wp2
    go_ret2
    exact ⟨_,zS,by first|exact Kd.kS _ _ _ _ _|exact Kd.pz _ _ _ _ _|exact Kd.nM _ _ _ _ _|exact Kd.pF _ _ _ _ _|exact Kd.oH _ _ _ _ _,zB⟩
   ·replace c8:=Bool.eq_false_iff.mpr c8
    subst c8
    rw [if_neg (show ¬ (false=true) by decide)] at H;try dsimp only at H
    have H':=aj.mk H
    clear H
    go_wp2
    go_loopg [5,29] kj2 (fun kq v5 v29 w'=>∃ (mP:List Int) (mF:Int),v29 = .int .i64 mF∧aj (fZ.l0 kq t193 mP l0 (l0.length:Int) mF=some (r1,r2))∧aj (kq≤kj2)∧aj (Kd.R (Kd.int .i64) 2 w' w.heap.size (fun _=>True) v5 mP)∧aj (Below w.heap.size w w'))
    case atStart=>exact ⟨(([]:List Int)),(0),zT,H',⟨Nat.le_refl _⟩,⟨by first|exact Kd.kS _ _ _ _ _|exact Kd.pz _ _ _ _ _|exact Kd.nM _ _ _ _ _|exact Kd.pF _ _ _ _ _|exact Kd.oH _ _ _ _ _⟩,⟨zB⟩⟩
    case round =>
     clear H'
     obtain ⟨mP,mF,rfl,HA,HK2,xZ,HB⟩:=hrel
     cases gk with
     | zero=>exact absurd HA.out (by simp [fZ.l0])
     | succ k2 =>
      have H:=HA.out
      clear HA
      simp only [fZ.l0] at H
      by_cases c9:mF < (l0.length:Int)
      ·rw [if_pos c9] at H
       have sO:=decide_eq_true c9
       clear c9
       by_cases c10:0≤mF
       ·rw [if_pos c10] at H
        have nN:=decide_eq_true c10
        clear c10
        by_cases c11:mF < (l0.length:Int)
        ·rw [if_pos c11] at H
         have jf:=decide_eq_true c11
         clear c11
         replace H:=zO H
         obtain ⟨aje,A12,H⟩:=H
         try dsimp only at H
         by_cases c13:mP.length < 17592186044416
         ·rw [if_pos c13] at H
          have axx:=aj.mk c13
          clear c13
          obtain ⟨avr,ah6⟩:∃ y_:List Int,y_=(mP ++ [aje]):=⟨_,rfl⟩
          replace H:(fZ.l0 k2 t193 avr l0 (l0.length:Int) (wrap64 (mF+1)))=some (r1,r2):=by first|(rw [ah6];with_reducible exact H)|(have H2_:=(Option.bind_some _ _).symm.trans H;rw [ah6];with_reducible exact H2_)|(have H2_:=(Option.bind_some _ _).symm.trans H;with_reducible exact H2_)|with_reducible exact H|(rw [ah6];exact H)|exact H
          have axy:=aj.mk ah6
          clear ah6
          have H':=aj.mk H
          clear H
          have ar7:0≤(mF:Int):=of_decide_eq_true (by first|(with_reducible assumption)|assumption)
          have ar8:mF < (l0.length:Int):=of_decide_eq_true (by first|(with_reducible assumption)|assumption)
          obtain ⟨aC9,ayT,ajf⟩:=Kd.jV HR0.out mF ar7 ar8
          cases ayT
          replace ajf:=(HB.out.cell (World.block_lt_of_cell? w _ ajf)).trans ajf
          replace ar7:=eq_true ar7
          replace ar8:=eq_true ar8
          go_wp2_with (first|((with_reducible refine aA (f:=130) rfl ?_);refine aI (some 36) rfl rfl Tryz.func130 (by kernel_rfl) rfl #[.int .i64 (rd l0 mF),.int .i64 1073741824,.int .i64 t193] rfl zL ?_;(with_reducible refine (bg.calls k2 (rd l0 mF) 1073741824 t193 aje _ A12.out).mono ?_);rintro e w' ⟨rfl,⟨nd,rfl⟩⟩;refine ⟨_,rfl,?_⟩)|((with_reducible refine jq (b := .append) (xs := #[.tmp 33,.tmp 37]) rfl ?_);(try (refine kW (by rfl) ?_;dsimp only));at_builtin;refine Kd.kV (Kd.int .i64) (w0:=w) w.heap.size rfl (.tmp 33) (.tmp 37) 44 2 (.int .i64 0) 8 rfl Tryz.underlying44 wY rfl (by decide) (by omega) u5 mP aje [.int .i64 aje] (fun _=>True) (fun _=>False) rfl rfl ?aP (fun _ hk=>hk.elim) ?aF ?aO ?aB ?aS ?aL ?_;(case aP=>exact rfl);(case aB=>exact zB);(case aF=>exact (fun _ _=>trivial));(case aO=>exact (by (with_reducible repeat (first|apply Kd.aK|apply Kd.aQ|apply Kd.aW));exact xZ.out));(case aS=>exact (bM zB));(case aL=>have:=axx.out;omega);intro aD3 w14 ho hb hg hat;rw [← axy.out] at ho;obtain ⟨HB,axz⟩:=zA2 hb ho;clear ho hb hg hat))
          go_roundg k2
          case measure=>have:=HJ2.out;have:=HK2.out;omega
          case rel=>exact ⟨(avr),(wrap64 (mF+1)),zT,H',⟨by have:=HJ2.out;have:=HK2.out;omega⟩,⟨by (with_reducible repeat (first|apply Kd.aK|apply Kd.aQ|apply Kd.aW));exact axz.out⟩,⟨zB⟩⟩
         ·rw [if_neg c13] at H
          exact absurd H (by simp)
        ·rw [if_neg c11] at H
         exact absurd H (by simp)
       ·rw [if_neg c10] at H
        exact absurd H (by simp)
      ·rw [if_neg c9] at H
       have sO:=decide_eq_false c9
       clear c9
       simp only [Option.some.injEq,Prod.mk.injEq] at H
       obtain ⟨rfl,rfl⟩:=H
       go_wp2
       go_ret2
       exact ⟨_,zS,by (with_reducible repeat (first|apply Kd.aK|apply Kd.aQ|apply Kd.aW));exact xZ.out,zB⟩
end Go.Proofs.YtpondkggmcmpfaaGreatDoor.QA
namespace Go.Proofs.YtpondkggmcmpfaaGreatDoor.QA
open Go.Proofs.YtpondkggmcmpfaaGreatDoor.T
open Go.RowKit Go.Proofs.YtpondkggmcmpfaaGreatDoorW.PrintWords Go.Proofs.YtpondkggmcmpfaaGreatDoorW.PrintLast Go.Proofs.YtpondkggmcmpfaaGreatDoorW.PrintMore
attribute [local go_sem] eG dX dY fF fG
set_option linter.unusedVariables false
set_option linter.unusedSimpArgs false
def bF.f (a0:Int):Option (Bool):=if a0≥1 then (some (decide (a0≤65536))) else (some false)
set_option maxHeartbeats 8000000 in
set_option maxRecDepth 100000 in
theorem bF.calls (a0:Int) (r:Bool) (w:World) (h:bF.f a0=some r) :
  Calls Tryz.prog 92 #[.int .i64 a0] w fun e w'=>e = .returned (.bool r)∧dH w w':=by
 have H:=h
 clear h
 unfold bF.f at H
 by_cases c2:a0≥1
 ·rw [if_pos c2] at H
  have lS:=decide_eq_true c2
  clear c2
  obtain rfl:=Option.some.inj H
  go_enter Tryz.func92,Tryz.ntmps92
  go_wp2
  go_ret
  exact ⟨by first|rfl|(simp;done)|(simp [*];done)|(simp [Int.tdiv_eq_ediv_of_nonneg (show (0:Int)≤268435456 by decide)];done),zW⟩
 ·rw [if_neg c2] at H
  have lS:=decide_eq_false c2
  clear c2
  obtain rfl:=Option.some.inj H
  go_enter Tryz.func92,Tryz.ntmps92
  go_wp2
  go_ret
  exact ⟨by first|rfl|(simp;done)|(simp [*];done)|(simp [Int.tdiv_eq_ediv_of_nonneg (show (0:Int)≤268435456 by decide)];done),zW⟩
def iV.f (a0:Int):Option (Bool):=if a0≥1 then (some (decide (a0≤65536))) else (some false)
set_option maxHeartbeats 8000000 in
set_option maxRecDepth 100000 in
theorem iV.calls (a0:Int) (r:Bool) (w:World) (h:iV.f a0=some r) :
  Calls Tryz.prog 113 #[.int .i64 a0] w fun e w'=>e = .returned (.bool r)∧dH w w':=by
 have H:=h
 clear h
 unfold iV.f at H
 by_cases c2:a0≥1
 ·rw [if_pos c2] at H
  have lS:=decide_eq_true c2
  clear c2
  obtain rfl:=Option.some.inj H
  go_enter Tryz.func113,Tryz.ntmps113
  go_wp2
  go_ret
  exact ⟨by first|rfl|(simp;done)|(simp [*];done)|(simp [Int.tdiv_eq_ediv_of_nonneg (show (0:Int)≤268435456 by decide)];done),zW⟩
 ·rw [if_neg c2] at H
  have lS:=decide_eq_false c2
  clear c2
  obtain rfl:=Option.some.inj H
  go_enter Tryz.func113,Tryz.ntmps113
  go_wp2
  go_ret
  exact ⟨by first|rfl|(simp;done)|(simp [*];done)|(simp [Int.tdiv_eq_ediv_of_nonneg (show (0:Int)≤268435456 by decide)];done),zW⟩
end Go.Proofs.YtpondkggmcmpfaaGreatDoor.QA
namespace Go.Proofs.YtpondkggmcmpfaaGreatDoor.QA
open Go.Proofs.YtpondkggmcmpfaaGreatDoor.T
open Go.RowKit Go.Proofs.YtpondkggmcmpfaaGreatDoorW.PrintWords Go.Proofs.YtpondkggmcmpfaaGreatDoorW.PrintLast Go.Proofs.YtpondkggmcmpfaaGreatDoorW.PrintMore
attribute [local go_sem] eG dX dY fF fG
set_option linter.unusedVariables false
set_option linter.unusedSimpArgs false
def lI.f (a0 a1 a2 a3:Int):Option (Bool):=if a0≥0 then (if a0≤2 then (if a1≥1 then (if a1≤65536 then (if a2≥1 then (if a2≤65536 then (if a3≥0 then (some (decide (a3 < a2))) else (some false)) else (some false)) else (some false)) else (some false)) else (some false)) else (some false)) else (some false)
set_option maxHeartbeats 8000000 in
set_option maxRecDepth 100000 in
theorem lI.calls (a0 a1 a2 a3:Int) (r:Bool) (w:World) (h:lI.f a0 a1 a2 a3=some r) :
  Calls Tryz.prog 139 #[.int .i64 a0,.int .i64 a1,.int .i64 a2,.int .i64 a3] w fun e w'=>e = .returned (.bool r)∧dH w w':=by
 have H:=h
 clear h
 unfold lI.f at H
 by_cases c5:a0≥0
 ·rw [if_pos c5] at H
  have iR:=decide_eq_true c5
  clear c5
  by_cases c6:a0≤2
  ·rw [if_pos c6] at H
   have iJ:=decide_eq_true c6
   clear c6
   by_cases c7:a1≥1
   ·rw [if_pos c7] at H
    have jI:=decide_eq_true c7
    clear c7
    by_cases c8:a1≤65536
    ·rw [if_pos c8] at H
     have xH:=decide_eq_true c8
     clear c8
     by_cases c9:a2≥1
     ·rw [if_pos c9] at H
      have sO:=decide_eq_true c9
      clear c9
      by_cases c10:a2≤65536
      ·rw [if_pos c10] at H
       have nN:=decide_eq_true c10
       clear c10
       by_cases c11:a3≥0
       ·rw [if_pos c11] at H
        have jf:=decide_eq_true c11
        clear c11
        obtain rfl:=Option.some.inj H
        go_enter Tryz.func139,Tryz.ntmps139
        go_wp2
        go_ret
        exact ⟨zT,zW⟩
       ·rw [if_neg c11] at H
        have jf:=decide_eq_false c11
        clear c11
        obtain rfl:=Option.some.inj H
        go_enter Tryz.func139,Tryz.ntmps139
        go_wp2
        go_ret
        exact ⟨zT,zW⟩
      ·rw [if_neg c10] at H
       have nN:=decide_eq_false c10
       clear c10
       obtain rfl:=Option.some.inj H
       go_enter Tryz.func139,Tryz.ntmps139
       go_wp2
       go_ret
       exact ⟨zT,zW⟩
     ·rw [if_neg c9] at H
      have sO:=decide_eq_false c9
      clear c9
      obtain rfl:=Option.some.inj H
      go_enter Tryz.func139,Tryz.ntmps139
      go_wp2
      go_ret
      exact ⟨zT,zW⟩
    ·rw [if_neg c8] at H
     have xH:=decide_eq_false c8
     clear c8
     obtain rfl:=Option.some.inj H
     go_enter Tryz.func139,Tryz.ntmps139
     go_wp2
     go_ret
     exact ⟨zT,zW⟩
   ·rw [if_neg c7] at H
    have jI:=decide_eq_false c7
    clear c7
    obtain rfl:=Option.some.inj H
    go_enter Tryz.func139,Tryz.ntmps139
    go_wp2
    go_ret
    exact ⟨zT,zW⟩
  ·rw [if_neg c6] at H
   have iJ:=decide_eq_false c6
   clear c6
   obtain rfl:=Option.some.inj H
   go_enter Tryz.func139,Tryz.ntmps139
   go_wp2
   go_ret
   exact ⟨zT,zW⟩
 ·rw [if_neg c5] at H
  have iR:=decide_eq_false c5
  clear c5
  obtain rfl:=Option.some.inj H
  go_enter Tryz.func139,Tryz.ntmps139
  go_wp2
  go_ret
  exact ⟨zT,zW⟩
def gB.f (a0 a1 a2 a3:Int):Option (Int × Int):=if a1 > a0 then (some (wrap64 ((wrap64 ((wrap64 ((wrap64 (2*a1))*a3)) - (wrap64 ((wrap64 ((wrap64 (2*a2))+1))*a0))))+a1),wrap64 (2*a1))) else (some (wrap64 ((wrap64 ((wrap64 ((wrap64 (2*a1))*a3)) - (wrap64 ((wrap64 ((wrap64 (2*a2))+1))*a0))))+a1),wrap64 (2*a0)))
set_option maxHeartbeats 8000000 in
set_option maxRecDepth 100000 in
theorem gB.calls (a0 a1 a2 a3 r1 r2:Int) (w:World) (h:gB.f a0 a1 a2 a3=some (r1,r2)) :
  Calls Tryz.prog 169 #[.int .i64 a0,.int .i64 a1,.int .i64 a2,.int .i64 a3] w fun e w'=>e = .returned (.tuple #[.int .i64 r1,.int .i64 r2])∧dH w w':=by
 have H:=h
 clear h
 unfold gB.f at H
 by_cases c5:a1 > a0
 ·rw [if_pos c5] at H
  have iR:=decide_eq_true c5
  clear c5
  simp only [Option.some.injEq,Prod.mk.injEq] at H
  obtain ⟨rfl,rfl⟩:=H
  go_enter Tryz.func169,Tryz.ntmps169
  go_wp2
  go_ret2
  exact ⟨zT,zW⟩
 ·rw [if_neg c5] at H
  have iR:=decide_eq_false c5
  clear c5
  simp only [Option.some.injEq,Prod.mk.injEq] at H
  obtain ⟨rfl,rfl⟩:=H
  go_enter Tryz.func169,Tryz.ntmps169
  go_wp2
  go_ret2
  exact ⟨zT,zW⟩
def jm.f (a0 a1 a2 a3 a4:Int):Option (Bool):=if a0=0 then (if (wrap64 ((wrap64 (a4+1))*a2)) > (wrap64 (a3*a1)) then (some (decide ((wrap64 (a4*a2)) < (wrap64 ((wrap64 (a3+1))*a1))))) else (some false)) else ((gB.f a1 a2 a3 a4).bind fun acX=>(if a0=2 then (if acX.1 < (wrap64 (3*acX.2)) then (some (decide (acX.1 > (wrap64 (-(wrap64 (3*acX.2))))))) else (some false)) else (if acX.1 < (wrap64 (2*acX.2)) then (some (decide (acX.1 > (wrap64 (-(wrap64 (2*acX.2))))))) else (some false))))
set_option maxHeartbeats 8000000 in
set_option maxRecDepth 100000 in
theorem jm.calls (a0 a1 a2 a3 a4:Int) (r:Bool) (w:World) (h:jm.f a0 a1 a2 a3 a4=some r) :
  Calls Tryz.prog 140 #[.int .i64 a0,.int .i64 a1,.int .i64 a2,.int .i64 a3,.int .i64 a4] w fun e w'=>e = .returned (.bool r)∧dH w w':=by
 have H:=h
 clear h
 unfold jm.f at H
 by_cases c6:a0=0
 ·rw [if_pos c6] at H
  have iJ:(a0 == 0)=true:=beq_iff_eq.mpr c6
  have vS:(a0 != 0)=false:=bne_eq_false_iff_eq.mpr c6
  clear c6
  by_cases c7:(wrap64 ((wrap64 (a4+1))*a2)) > (wrap64 (a3*a1))
  ·rw [if_pos c7] at H
   have jI:=decide_eq_true c7
   clear c7
   obtain rfl:=Option.some.inj H
   go_enter Tryz.func140,Tryz.ntmps140
   go_wp2
   go_ret
   exact ⟨zT,zW⟩
  ·rw [if_neg c7] at H
   have jI:=decide_eq_false c7
   clear c7
   obtain rfl:=Option.some.inj H
   go_enter Tryz.func140,Tryz.ntmps140
   go_wp2
   go_ret
   exact ⟨zT,zW⟩
 ·rw [if_neg c6] at H
  have iJ:(a0 == 0)=false:=beq_eq_false_iff_ne.mpr c6
  have vS:(a0 != 0)=true:=bne_iff_ne.mpr c6
  replace H:=zO H
  obtain ⟨⟨ajg,ajh⟩,A8,H⟩:=H
  try dsimp only at H
  by_cases c9:a0=2
  ·rw [if_pos c9] at H
   have sO:(a0 == 2)=true:=beq_iff_eq.mpr c9
   have agr:(a0 != 2)=false:=bne_eq_false_iff_eq.mpr c9
   clear c9
   by_cases c10:ajg < (wrap64 (3*ajh))
   ·rw [if_pos c10] at H
    have nN:=decide_eq_true c10
    clear c10
    obtain rfl:=Option.some.inj H
    go_enter Tryz.func140,Tryz.ntmps140
    go_wp2_with (first|((with_reducible refine aA (f:=169) rfl ?_);refine aI (some 39) rfl rfl Tryz.func169 (by kernel_rfl) rfl #[.int .i64 a1,.int .i64 a2,.int .i64 a3,.int .i64 a4] rfl zL ?_;(with_reducible refine (gB.calls a1 a2 a3 a4 ajg ajh _ A8.out).mono ?_);rintro e w' ⟨rfl,⟨nd,rfl⟩⟩;refine ⟨_,rfl,?_⟩))
    go_ret
    exact ⟨zT,zW⟩
   ·rw [if_neg c10] at H
    have nN:=decide_eq_false c10
    clear c10
    obtain rfl:=Option.some.inj H
    go_enter Tryz.func140,Tryz.ntmps140
    go_wp2_with (first|((with_reducible refine aA (f:=169) rfl ?_);refine aI (some 39) rfl rfl Tryz.func169 (by kernel_rfl) rfl #[.int .i64 a1,.int .i64 a2,.int .i64 a3,.int .i64 a4] rfl zL ?_;(with_reducible refine (gB.calls a1 a2 a3 a4 ajg ajh _ A8.out).mono ?_);rintro e w' ⟨rfl,⟨nd,rfl⟩⟩;refine ⟨_,rfl,?_⟩))
    go_ret
    exact ⟨zT,zW⟩
  ·rw [if_neg c9] at H
   have sO:(a0 == 2)=false:=beq_eq_false_iff_ne.mpr c9
   have agr:(a0 != 2)=true:=bne_iff_ne.mpr c9
   by_cases c11:ajg < (wrap64 (2*ajh))
   ·rw [if_pos c11] at H
    have jf:=decide_eq_true c11
    clear c11
    obtain rfl:=Option.some.inj H
    go_enter Tryz.func140,Tryz.ntmps140
    go_wp2_with (first|((with_reducible refine aA (f:=169) rfl ?_);refine aI (some 39) rfl rfl Tryz.func169 (by kernel_rfl) rfl #[.int .i64 a1,.int .i64 a2,.int .i64 a3,.int .i64 a4] rfl zL ?_;(with_reducible refine (gB.calls a1 a2 a3 a4 ajg ajh _ A8.out).mono ?_);rintro e w' ⟨rfl,⟨nd,rfl⟩⟩;refine ⟨_,rfl,?_⟩))
    go_ret
    exact ⟨zT,zW⟩
   ·rw [if_neg c11] at H
    have jf:=decide_eq_false c11
    clear c11
    obtain rfl:=Option.some.inj H
    go_enter Tryz.func140,Tryz.ntmps140
    go_wp2_with (first|((with_reducible refine aA (f:=169) rfl ?_);refine aI (some 39) rfl rfl Tryz.func169 (by kernel_rfl) rfl #[.int .i64 a1,.int .i64 a2,.int .i64 a3,.int .i64 a4] rfl zL ?_;(with_reducible refine (gB.calls a1 a2 a3 a4 ajg ajh _ A8.out).mono ?_);rintro e w' ⟨rfl,⟨nd,rfl⟩⟩;refine ⟨_,rfl,?_⟩))
    go_ret
    exact ⟨zT,zW⟩
def dQ.f (a0:Int):Option (Int):=if a0 < 0 then (some (IntKind.u64.wrap ((IntKind.u64.wrap (wrap64 (-(wrap64 (a0+1)))))+1))) else (some (IntKind.u64.wrap (a0)))
set_option maxHeartbeats 8000000 in
set_option maxRecDepth 100000 in
theorem dQ.calls (a0 r:Int) (w:World) (h:dQ.f a0=some r) :
  Calls Tryz.prog 120 #[.int .i64 a0] w fun e w'=>e = .returned (.int .u64 r)∧dH w w':=by
 have H:=h
 clear h
 unfold dQ.f at H
 by_cases c2:a0 < 0
 ·rw [if_pos c2] at H
  have lS:=decide_eq_true c2
  clear c2
  obtain rfl:=Option.some.inj H
  go_enter Tryz.func120,Tryz.ntmps120
  go_wp2
  go_ret
  exact ⟨zT,zW⟩
 ·rw [if_neg c2] at H
  have lS:=decide_eq_false c2
  clear c2
  obtain rfl:=Option.some.inj H
  go_enter Tryz.func120,Tryz.ntmps120
  go_wp2
  go_ret
  exact ⟨zT,zW⟩
def dO.f (bH cO a1:Int):Option (Int × Int):=some (IntKind.u64.wrap ((IntKind.u64.wrap (bH*2))+(cO / 9223372036854775808)),IntKind.u64.wrap ((IntKind.u64.wrap (cO*2))+a1))
set_option maxHeartbeats 8000000 in
set_option maxRecDepth 100000 in
theorem dO.calls (bH cO a1 r1 r2:Int) (w:World) (h:dO.f bH cO a1=some (r1,r2)) :
  Calls Tryz.prog 119 #[.agg #[.int .u64 bH,.int .u64 cO],.int .u64 a1] w fun e w'=>e = .returned (.agg #[.int .u64 r1,.int .u64 r2])∧Below w.heap.size w w':=by
 have yR:=Tryz.underlying179
 have HB:=aj.mk (Below.refl w.heap.size w)
 have H:=h
 clear h
 unfold dO.f at H
 simp only [Option.some.injEq,Prod.mk.injEq] at H
 obtain ⟨rfl,rfl⟩:=H
 go_enter Tryz.func119,Tryz.ntmps119
 go_wp2_with (first|((with_reducible refine bK (N:=2) rfl ?_);refine bJ zR (N:=2) zR (cs := #[.int .u64 bH,.int .u64 cO]) (t:=179) zG ?_;intro aDa hg w3 hbox hb;obtain ⟨HB,afT,aDb,aDc⟩:=zA4 (ak zB hb) hbox (zg hg zB) (zg hg zB);clear hb hbox hg)|((with_reducible refine bK (N:=4) rfl ?_);refine bJ zR (N:=4) zR (cs := #[.int .u64 0,.int .u64 0]) (t:=179) zG ?_;intro axA hg w4 hbox hb;obtain ⟨afT,HB,aoS,aDd,aDe,apQ,apR⟩:=zA7 (ay (zK afT) hb) (ak zB hb) hbox (zg hg zB) (zg hg zB) (zl hg (zK afT)) (zr hg (zK afT));clear hb hbox hg;have ayU:=apQ.out;have ayV:=apR.out;obtain ⟨_,_⟩:=zC2 afT.out;obtain ⟨_,_⟩:=zF2 afT.out;obtain ⟨_,_⟩:=zC2 aoS.out;obtain ⟨_,_⟩:=zF2 aoS.out))
 refine bodyPost_ret (results_cell_row rfl _ _ axA 179 #[.int .u64 (IntKind.u64.wrap ((IntKind.u64.wrap (bH*2))+(cO / 9223372036854775808))),.int .u64 (IntKind.u64.wrap ((IntKind.u64.wrap (cO*2))+a1))] (0,0) _ rfl (by refine zD ?_;refine aJ (cs := #[.int .u64 (IntKind.u64.wrap ((IntKind.u64.wrap (bH*2))+(cO / 9223372036854775808))),.int .u64 0]) ?_ 1 _ rfl;refine zD ?_;refine aJ (cs := #[.int .u64 0,.int .u64 0]) ?_ 0 _ rfl;refine zD ?_;exact aoS.out) Tryz.underlying179 rfl (by kernel_rfl)) rfl ?_
 exact ⟨zS,zB⟩
def iq.f (bH cO lJ oG:Int):Option (Int × Int):=if (IntKind.u64.wrap (cO+oG)) < cO then (some (IntKind.u64.wrap ((IntKind.u64.wrap (bH+lJ))+1),IntKind.u64.wrap (cO+oG))) else (some (IntKind.u64.wrap (bH+lJ),IntKind.u64.wrap (cO+oG)))
set_option maxHeartbeats 8000000 in
set_option maxRecDepth 100000 in
theorem iq.calls (bH cO lJ oG r1 r2:Int) (w:World) (h:iq.f bH cO lJ oG=some (r1,r2)) :
  Calls Tryz.prog 124 #[.agg #[.int .u64 bH,.int .u64 cO],.agg #[.int .u64 lJ,.int .u64 oG]] w fun e w'=>e = .returned (.agg #[.int .u64 r1,.int .u64 r2])∧Below w.heap.size w w':=by
 have yR:=Tryz.underlying179
 have HB:=aj.mk (Below.refl w.heap.size w)
 have H:=h
 clear h
 unfold iq.f at H
 by_cases c3:(IntKind.u64.wrap (cO+oG)) < cO
 ·rw [if_pos c3] at H
  have gq:=decide_eq_true c3
  clear c3
  simp only [Option.some.injEq,Prod.mk.injEq] at H
  obtain ⟨rfl,rfl⟩:=H
  go_enter Tryz.func124,Tryz.ntmps124
  go_wp2_with (first|((with_reducible refine bK (N:=2) rfl ?_);refine bJ zR (N:=2) zR (cs := #[.int .u64 bH,.int .u64 cO]) (t:=179) zG ?_;intro axB hg w4 hbox hb;obtain ⟨HB,kN,axC,axD⟩:=zA4 (ak zB hb) hbox (zg hg zB) (zg hg zB);clear hb hbox hg)|((with_reducible refine bK (N:=3) rfl ?_);refine bJ zR (N:=3) zR (cs := #[.int .u64 lJ,.int .u64 oG]) (t:=179) zG ?_;intro axE hg w5 hbox hb;obtain ⟨kN,HB,qp,axF,axG,afk,afl⟩:=zA7 (ay (zK kN) hb) (ak zB hb) hbox (zg hg zB) (zg hg zB) (zl hg (zK kN)) (zr hg (zK kN));clear hb hbox hg)|((with_reducible refine bK (N:=4) rfl ?_);refine bJ zR (N:=4) zR (cs := #[.int .u64 0,.int .u64 0]) (t:=179) zG ?_;intro aoT hg w6 hbox hb;obtain ⟨kN,qp,HB,wu,axH,axI,afm,afn,afo,afp⟩:=aeA (ay (zK kN) hb) (ay (zK qp) hb) (ak zB hb) hbox (zg hg zB) (zg hg zB) (zl hg (zK kN)) (zr hg (zK kN)) (zl hg (zK qp)) (zr hg (zK qp));clear hb hbox hg;have auE:=afk.out;have auF:=afl.out;have auG:=afm.out;have auH:=afn.out;obtain ⟨_,_⟩:=zC2 kN.out;obtain ⟨_,_⟩:=zF2 kN.out;have avQ:=afo.out;have avR:=afp.out;obtain ⟨_,_⟩:=zC2 qp.out;obtain ⟨_,_⟩:=zF2 qp.out)|((with_reducible refine bK (N:=5) rfl ?_);refine bJ zR (N:=5) zR (cs := #[.int .u64 0,.int .u64 0]) (t:=179) zG ?_;intro axJ hg w12 hbox hb;obtain ⟨kN,qp,wu,HB,ah7,axK,axL,afq,afr,afs,aft,vO,afu⟩:=agm (ay (zK kN) hb) (ay (zK qp) hb) (ay (zK wu) hb) (ak zB hb) hbox (zg hg zB) (zg hg zB) (zl hg (zK kN)) (zr hg (zK kN)) (zl hg (zK qp)) (zr hg (zK qp)) (zl hg (zK wu)) (zr hg (zK wu));clear hb hbox hg;have anK:=afr.out;have anL:=afq.out;have anM:=aft.out;have anN:=afs.out;have avV:=afu.out;have avW:=vO.out;obtain ⟨_,_⟩:=zC2 ah7.out;obtain ⟨_,_⟩:=zF2 ah7.out;obtain ⟨_,_⟩:=zC2 kN.out;obtain ⟨_,_⟩:=zF2 kN.out;obtain ⟨_,_⟩:=zC2 wu.out;obtain ⟨_,_⟩:=zF2 wu.out))
  refine bodyPost_ret (results_cell_row rfl _ _ aoT 179 #[.int .u64 (IntKind.u64.wrap ((IntKind.u64.wrap (bH+lJ))+1)),.int .u64 (IntKind.u64.wrap (cO+oG))] (0,0) _ rfl (by refine zD ?_;refine aJ (cs := #[.int .u64 (IntKind.u64.wrap ((IntKind.u64.wrap (bH+lJ))+1)),.int .u64 0]) ?_ 1 _ rfl;refine zD ?_;refine aJ (cs := #[.int .u64 0,.int .u64 0]) ?_ 0 _ rfl;refine zD ?_;refine iW ?_ vO.out _;refine zD ?_;refine iW ?_ vO.out _;refine zD ?_;refine iW ?_ vO.out _;refine zD ?_;exact wu.out) Tryz.underlying179 rfl (by kernel_rfl)) rfl ?_
  exact ⟨zS,zB⟩
 ·rw [if_neg c3] at H
  have gq:=decide_eq_false c3
  clear c3
  simp only [Option.some.injEq,Prod.mk.injEq] at H
  obtain ⟨rfl,rfl⟩:=H
  go_enter Tryz.func124,Tryz.ntmps124
  go_wp2_with (first|((with_reducible refine bK (N:=2) rfl ?_);refine bJ zR (N:=2) zR (cs := #[.int .u64 bH,.int .u64 cO]) (t:=179) zG ?_;intro axB hg w19 hbox hb;obtain ⟨HB,kN,axC,axD⟩:=zA4 (ak zB hb) hbox (zg hg zB) (zg hg zB);clear hb hbox hg)|((with_reducible refine bK (N:=3) rfl ?_);refine bJ zR (N:=3) zR (cs := #[.int .u64 lJ,.int .u64 oG]) (t:=179) zG ?_;intro axE hg w20 hbox hb;obtain ⟨kN,HB,qp,axF,axG,afk,afl⟩:=zA7 (ay (zK kN) hb) (ak zB hb) hbox (zg hg zB) (zg hg zB) (zl hg (zK kN)) (zr hg (zK kN));clear hb hbox hg)|((with_reducible refine bK (N:=4) rfl ?_);refine bJ zR (N:=4) zR (cs := #[.int .u64 0,.int .u64 0]) (t:=179) zG ?_;intro aoT hg w21 hbox hb;obtain ⟨kN,qp,HB,wu,axH,axI,afm,afn,afo,afp⟩:=aeA (ay (zK kN) hb) (ay (zK qp) hb) (ak zB hb) hbox (zg hg zB) (zg hg zB) (zl hg (zK kN)) (zr hg (zK kN)) (zl hg (zK qp)) (zr hg (zK qp));clear hb hbox hg;have asE:=afk.out;have asF:=afl.out;have anO:=afm.out;have anP:=afn.out;obtain ⟨_,_⟩:=zC2 kN.out;obtain ⟨_,_⟩:=zF2 kN.out;have asG:=afo.out;have asH:=afp.out;obtain ⟨_,_⟩:=zC2 qp.out;obtain ⟨_,_⟩:=zF2 qp.out)|((with_reducible refine bK (N:=5) rfl ?_);refine bJ zR (N:=5) zR (cs := #[.int .u64 0,.int .u64 0]) (t:=179) zG ?_;intro axJ hg w27 hbox hb;obtain ⟨kN,qp,wu,HB,ah7,axK,axL,afq,afr,afs,aft,vO,afu⟩:=agm (ay (zK kN) hb) (ay (zK qp) hb) (ay (zK wu) hb) (ak zB hb) hbox (zg hg zB) (zg hg zB) (zl hg (zK kN)) (zr hg (zK kN)) (zl hg (zK qp)) (zr hg (zK qp)) (zl hg (zK wu)) (zr hg (zK wu));clear hb hbox hg;have awC:=afr.out;have awD:=afq.out;have anQ:=aft.out;have anR:=afs.out;have asB:=afu.out;have asC:=vO.out;obtain ⟨_,_⟩:=zC2 ah7.out;obtain ⟨_,_⟩:=zF2 ah7.out;obtain ⟨_,_⟩:=zC2 kN.out;obtain ⟨_,_⟩:=zF2 kN.out;obtain ⟨_,_⟩:=zC2 wu.out;obtain ⟨_,_⟩:=zF2 wu.out))
  refine bodyPost_ret (results_cell_row rfl _ _ aoT 179 #[.int .u64 (IntKind.u64.wrap (bH+lJ)),.int .u64 (IntKind.u64.wrap (cO+oG))] (0,0) _ rfl (by refine zD ?_;refine aJ (cs := #[.int .u64 (IntKind.u64.wrap (bH+lJ)),.int .u64 0]) ?_ 1 _ rfl;refine zD ?_;refine aJ (cs := #[.int .u64 0,.int .u64 0]) ?_ 0 _ rfl;refine zD ?_;refine iW ?_ vO.out _;refine zD ?_;refine iW ?_ vO.out _;refine zD ?_;exact wu.out) Tryz.underlying179 rfl (by kernel_rfl)) rfl ?_
  exact ⟨zS,zB⟩
end Go.Proofs.YtpondkggmcmpfaaGreatDoor.QA
namespace Go.Proofs.YtpondkggmcmpfaaGreatDoor.QA
open Go.Proofs.YtpondkggmcmpfaaGreatDoor.T
open Go.RowKit Go.Proofs.YtpondkggmcmpfaaGreatDoorW.PrintWords Go.Proofs.YtpondkggmcmpfaaGreatDoorW.PrintLast Go.Proofs.YtpondkggmcmpfaaGreatDoorW.PrintMore
attribute [local go_sem] eG dX dY fF fG
set_option linter.unusedVariables false
set_option linter.unusedSimpArgs false
def dV.l0:Nat→Int→Int→Int→Int→Int→Option (Int × Int)
 | 0,_,_,_,_,_=>none
 | k+1,x0,x1,x6,am6,am7=>if x6≥0 then ((dO.f am6 am7 0).bind fun akp=>(if 0≤x6 then (if (Go.bits .and .u64 (shr .u64 x1 x6) 1)=1 then ((iq.f akp.1 akp.2 0 x0).bind fun ah8=>(dV.l0 k x0 x1 (wrap64 (x6 - 1)) ah8.1 ah8.2)) else (dV.l0 k x0 x1 (wrap64 (x6 - 1)) akp.1 akp.2)) else (none))) else (some (am6,am7))
def dV.f (k:Nat) (a0 a1:Int):Option (Int × Int):=dV.l0 k a0 a1 63 0 0
set_option maxHeartbeats 8000000 in
set_option maxRecDepth 100000 in
theorem dV.calls (k:Nat) (a0 a1 r1 r2:Int) (w:World) (h:dV.f k a0 a1=some (r1,r2)) :
  Calls Tryz.prog 148 #[.int .u64 a0,.int .u64 a1] w fun e w'=>e = .returned (.agg #[.int .u64 r1,.int .u64 r2])∧Below w.heap.size w w':=by
 have yR:=Tryz.underlying179
 have HB:=aj.mk (Below.refl w.heap.size w)
 have H:=h
 clear h
 unfold dV.f at H
 have H':=aj.mk H
 clear H
 go_enter Tryz.func148,Tryz.ntmps148
 go_wp2_with (first|((with_reducible refine bK (N:=4) rfl ?_);refine bJ zR (N:=4) zR (cs := #[.int .u64 0,.int .u64 0]) (t:=179) zG ?_;intro atg hg w3 hbox hb;obtain ⟨HB,uy,aDf,aDg⟩:=zA4 (ak zB hb) hbox (zg hg zB) (zg hg zB);clear hb hbox hg)|((with_reducible refine bK (N:=5) rfl ?_);refine bJ zR (N:=5) zR (cs := #[.int .u64 0,.int .u64 0]) (t:=179) zG ?_;intro ath hg w4 hbox hb;obtain ⟨uy,HB,oz,aDh,aDi,acY,acZ⟩:=zA7 (ay (zK uy) hb) (ak zB hb) hbox (zg hg zB) (zg hg zB) (zl hg (zK uy)) (zr hg (zK uy));clear hb hbox hg;have ayU:=acZ.out;have ayV:=acY.out;obtain ⟨_,_⟩:=zC2 oz.out;obtain ⟨_,_⟩:=zF2 oz.out))
 go_loopg [6] k (fun kq v6 w'=>∃ (qK:Int) (qL:Int) (oZ:Int),v6 = .int .i64 qK∧aj (dV.l0 kq a0 a1 qK qL oZ=some (r1,r2))∧aj (kq≤k)∧aj (w'.heap[atg]? = some (.cells #[.int .u64 0,.int .u64 0] 179 (0,0)))∧aj (w'.heap[ath]? = some (.cells #[.int .u64 qL,.int .u64 oZ] 179 (0,0)))∧aj (Below w.heap.size w w'))
 case atStart=>exact ⟨(63),(0),(0),zT,H',⟨Nat.le_refl _⟩,⟨zK uy⟩,⟨by refine zD ?_;refine aJ (cs := #[.int .u64 0,.int .u64 0]) ?_ 1 _ rfl;refine zD ?_;refine aJ (cs := #[.int .u64 0,.int .u64 0]) ?_ 0 _ rfl;refine zD ?_;exact oz.out⟩,⟨zB⟩⟩
 case round =>
  clear H'
  obtain ⟨qK,qL,oZ,rfl,HA,HK1,uy,oz,HB⟩:=hrel
  cases gk with
  | zero=>exact absurd HA.out (by simp [dV.l0])
  | succ k1 =>
   have H:=HA.out
   clear HA
   simp only [dV.l0] at H
   by_cases c7:qK≥0
   ·rw [if_pos c7] at H
    have jI:=decide_eq_true c7
    clear c7
    replace H:=zO H
    obtain ⟨⟨acv,adn⟩,A8,H⟩:=H
    try dsimp only at H
    by_cases c9:0≤qK
    ·rw [if_pos c9] at H
     have sO:=eq_true c9
     have agr:=decide_eq_true c9
     clear c9
     obtain ⟨dK,kE⟩:∃ j_:Int,(shr .u64 a1 qK)=j_:=⟨_,rfl⟩
     replace H:(if (Go.bits .and .u64 (dK) 1)=1 then ((iq.f acv adn 0 a0).bind fun ah8=>(dV.l0 k1 a0 a1 (wrap64 (qK - 1)) ah8.1 ah8.2)) else (dV.l0 k1 a0 a1 (wrap64 (qK - 1)) acv adn))=some (r1,r2):=by first|(rw [kE] at H;exact H)|(simp only [kE] at H ⊢;exact H)
     (try rw [kE] at A8)
     have alL:(a1 / 2 ^ min qK.toNat 64)=dK:=kE
     have apK:qK≤64→(a1 / 2 ^ qK.toNat)=dK:=qw kE
     by_cases c11:(Go.bits .and .u64 (dK) 1)=1
     ·rw [if_pos c11] at H
      have jf:((Go.bits .and .u64 (dK) 1) == 1)=true:=beq_iff_eq.mpr c11
      have aag:((Go.bits .and .u64 (dK) 1) != 1)=false:=bne_eq_false_iff_eq.mpr c11
      clear c11
      replace H:=zO H
      obtain ⟨⟨ar9,avs⟩,A12,H⟩:=H
      try dsimp only at H
      have H':=aj.mk H
      clear H
      have anK:=acZ.out
      have anL:=acY.out
      obtain ⟨_,_⟩:=zC2 oz.out
      obtain ⟨_,_⟩:=zF2 oz.out
      go_wp2_with (first|((with_reducible refine aA (f:=119) rfl ?_);refine aI (some 13) rfl rfl Tryz.func119 (by kernel_rfl) rfl #[.agg #[.int .u64 qL,.int .u64 oZ],.int .u64 0] rfl zL ?_;(with_reducible refine (dO.calls qL oZ 0 acv adn _ A8.out).mono ?_);rintro e w15 ⟨rfl,hb⟩;refine ⟨_,rfl,?_⟩;obtain ⟨uy,oz,HB⟩:=zA3 (ay (zK uy) hb) (ay (zK oz) hb) (ak zB hb);(try clear hb);obtain ⟨_,_⟩:=zC2 oz.out;obtain ⟨_,_⟩:=zF2 oz.out)|((with_reducible refine aA (f:=124) rfl ?_);refine aI (some 22) rfl rfl Tryz.func124 (by kernel_rfl) rfl #[.agg #[.int .u64 acv,.int .u64 adn],.agg #[.int .u64 0,.int .u64 a0]] rfl zL ?_;(with_reducible refine (iq.calls acv adn 0 a0 ar9 avs _ A12.out).mono ?_);rintro e w17 ⟨rfl,hb⟩;refine ⟨_,rfl,?_⟩;obtain ⟨uy,oz,HB⟩:=zA3 (ay (zK uy) hb) (ay (g:=ath) (o := .cells #[.int .u64 acv,.int .u64 adn] 179 (0,0)) (by refine zD ?_;refine aJ (cs := #[.int .u64 acv,.int .u64 oZ]) ?_ 1 _ rfl;refine zD ?_;refine aJ (cs := #[.int .u64 qL,.int .u64 oZ]) ?_ 0 _ rfl;refine zD ?_;exact oz.out) hb) (ak zB hb);(try clear hb);obtain ⟨_,_⟩:=zC2 oz.out;obtain ⟨_,_⟩:=zF2 oz.out))
      go_roundg k1
      case measure=>have:=HK1.out;omega
      case rel=>exact ⟨(wrap64 (qK - 1)),(ar9),(avs),zT,H',⟨by have:=HK1.out;omega⟩,⟨zK uy⟩,⟨by refine zD ?_;refine aJ (cs := #[.int .u64 ar9,.int .u64 adn]) ?_ 1 _ rfl;refine zD ?_;refine aJ (cs := #[.int .u64 acv,.int .u64 adn]) ?_ 0 _ rfl;refine zD ?_;exact oz.out⟩,⟨zB⟩⟩
     ·rw [if_neg c11] at H
      have jf:((Go.bits .and .u64 (dK) 1) == 1)=false:=beq_eq_false_iff_ne.mpr c11
      have aag:((Go.bits .and .u64 (dK) 1) != 1)=true:=bne_iff_ne.mpr c11
      have H':=aj.mk H
      clear H
      have aDj:=acZ.out
      have aDk:=acY.out
      obtain ⟨_,_⟩:=zC2 oz.out
      obtain ⟨_,_⟩:=zF2 oz.out
      go_wp2_with (first|((with_reducible refine aA (f:=119) rfl ?_);refine aI (some 13) rfl rfl Tryz.func119 (by kernel_rfl) rfl #[.agg #[.int .u64 qL,.int .u64 oZ],.int .u64 0] rfl zL ?_;(with_reducible refine (dO.calls qL oZ 0 acv adn _ A8.out).mono ?_);rintro e w21 ⟨rfl,hb⟩;refine ⟨_,rfl,?_⟩;obtain ⟨uy,oz,HB⟩:=zA3 (ay (zK uy) hb) (ay (zK oz) hb) (ak zB hb);(try clear hb);obtain ⟨_,_⟩:=zC2 oz.out;obtain ⟨_,_⟩:=zF2 oz.out))
      go_roundg k1
      case measure=>have:=HK1.out;omega
      case rel=>exact ⟨(wrap64 (qK - 1)),(acv),(adn),zT,H',⟨by have:=HK1.out;omega⟩,⟨zK uy⟩,⟨by refine zD ?_;refine aJ (cs := #[.int .u64 acv,.int .u64 oZ]) ?_ 1 _ rfl;refine zD ?_;refine aJ (cs := #[.int .u64 qL,.int .u64 oZ]) ?_ 0 _ rfl;refine zD ?_;exact oz.out⟩,⟨zB⟩⟩
    ·rw [if_neg c9] at H
     exact absurd H (by simp)
   ·rw [if_neg c7] at H
    have jI:=decide_eq_false c7
    clear c7
    simp only [Option.some.injEq,Prod.mk.injEq] at H
    obtain ⟨rfl,rfl⟩:=H
    have anO:=acZ.out
    have anP:=acY.out
    obtain ⟨_,_⟩:=zC2 oz.out
    obtain ⟨_,_⟩:=zF2 oz.out
    obtain ⟨_,_⟩:=zC2 uy.out
    obtain ⟨_,_⟩:=zF2 uy.out
    go_wp2
    refine bodyPost_ret (results_cell_row rfl _ _ atg 179 #[.int .u64 qL,.int .u64 oZ] (0,0) _ rfl (by refine zD ?_;refine aJ (cs := #[.int .u64 qL,.int .u64 0]) ?_ 1 _ rfl;refine zD ?_;refine aJ (cs := #[.int .u64 0,.int .u64 0]) ?_ 0 _ rfl;refine zD ?_;exact uy.out) Tryz.underlying179 rfl (by kernel_rfl)) rfl ?_
    exact ⟨zS,zB⟩
def iH.f (bH cO lJ oG:Int):Option (Bool):=if bH=lJ then (some (decide (cO < oG))) else (some (decide (bH < lJ)))
set_option maxHeartbeats 8000000 in
set_option maxRecDepth 100000 in
theorem iH.calls (bH cO lJ oG:Int) (r:Bool) (w:World) (h:iH.f bH cO lJ oG=some r) :
  Calls Tryz.prog 123 #[.agg #[.int .u64 bH,.int .u64 cO],.agg #[.int .u64 lJ,.int .u64 oG]] w fun e w'=>e = .returned (.bool r)∧Below w.heap.size w w':=by
 have yR:=Tryz.underlying179
 have HB:=aj.mk (Below.refl w.heap.size w)
 have H:=h
 clear h
 unfold iH.f at H
 by_cases c3:bH=lJ
 ·rw [if_pos c3] at H
  have gq:(bH == lJ)=true:=beq_iff_eq.mpr c3
  have yD:(bH != lJ)=false:=bne_eq_false_iff_eq.mpr c3
  clear c3
  obtain rfl:=Option.some.inj H
  go_enter Tryz.func123,Tryz.ntmps123
  go_wp2_with (first|((with_reducible refine bK (N:=2) rfl ?_);refine bJ zR (N:=2) zR (cs := #[.int .u64 bH,.int .u64 cO]) (t:=179) zG ?_;intro axM hg w4 hbox hb;obtain ⟨HB,yA,axN,axO⟩:=zA4 (ak zB hb) hbox (zg hg zB) (zg hg zB);clear hb hbox hg)|((with_reducible refine bK (N:=3) rfl ?_);refine bJ zR (N:=3) zR (cs := #[.int .u64 lJ,.int .u64 oG]) (t:=179) zG ?_;intro axP hg w5 hbox hb;obtain ⟨yA,HB,ah9,axQ,axR,afv,afw⟩:=zA7 (ay (zK yA) hb) (ak zB hb) hbox (zg hg zB) (zg hg zB) (zl hg (zK yA)) (zr hg (zK yA));clear hb hbox hg;have aD4:=afv.out;have aD5:=afw.out;obtain ⟨_,_⟩:=zC2 yA.out;obtain ⟨_,_⟩:=zF2 yA.out;obtain ⟨_,_⟩:=zC2 ah9.out;obtain ⟨_,_⟩:=zF2 ah9.out))
  go_ret
  exact ⟨zS,zB⟩
 ·rw [if_neg c3] at H
  have gq:(bH == lJ)=false:=beq_eq_false_iff_ne.mpr c3
  have yD:(bH != lJ)=true:=bne_iff_ne.mpr c3
  obtain rfl:=Option.some.inj H
  go_enter Tryz.func123,Tryz.ntmps123
  go_wp2_with (first|((with_reducible refine bK (N:=2) rfl ?_);refine bJ zR (N:=2) zR (cs := #[.int .u64 bH,.int .u64 cO]) (t:=179) zG ?_;intro axM hg w9 hbox hb;obtain ⟨HB,yA,axN,axO⟩:=zA4 (ak zB hb) hbox (zg hg zB) (zg hg zB);clear hb hbox hg)|((with_reducible refine bK (N:=3) rfl ?_);refine bJ zR (N:=3) zR (cs := #[.int .u64 lJ,.int .u64 oG]) (t:=179) zG ?_;intro axP hg w10 hbox hb;obtain ⟨yA,HB,ah9,axQ,axR,afv,afw⟩:=zA7 (ay (zK yA) hb) (ak zB hb) hbox (zg hg zB) (zg hg zB) (zl hg (zK yA)) (zr hg (zK yA));clear hb hbox hg;have av8:=afv.out;have av9:=afw.out;obtain ⟨_,_⟩:=zC2 yA.out;obtain ⟨_,_⟩:=zF2 yA.out;obtain ⟨_,_⟩:=zC2 ah9.out;obtain ⟨_,_⟩:=zF2 ah9.out))
  go_ret
  exact ⟨zS,zB⟩
def bW.j0:Nat→Bool→Int→Int→Option (Int)
 | 0,_,_,_=>none
 | k+1,x13,aAk,aub=>if x13=true then (some (-9223372036854775808)) else (some (wrap64 (-(wrap64 (aub)))))
def bW.f (k:Nat) (bH cO:Int) (a1:Bool):Option (Int):=if a1=true then (if bH > 0 then (bW.j0 k true bH cO) else (bW.j0 k (decide (cO > 9223372036854775807)) bH cO)) else (if bH > 0 then (some 9223372036854775807) else (if cO > 9223372036854775807 then (some 9223372036854775807) else (some (wrap64 (cO)))))
set_option maxHeartbeats 8000000 in
set_option maxRecDepth 100000 in
theorem bW.calls (k:Nat) (bH cO:Int) (a1:Bool) (r:Int) (w:World) (h:bW.f k bH cO a1=some r) :
  Calls Tryz.prog 125 #[.agg #[.int .u64 bH,.int .u64 cO],.bool a1] w fun e w'=>e = .returned (.int .i64 r)∧Below w.heap.size w w':=by
 have yR:=Tryz.underlying179
 have HB:=aj.mk (Below.refl w.heap.size w)
 have H:=h
 clear h
 unfold bW.f at H
 by_cases c3:a1=true
 ·subst c3
  rw [if_pos rfl] at H;try dsimp only at H
  have HC4:=aj.mk H
  clear H
  go_enter Tryz.func125,Tryz.ntmps125
  go_upto_region 2 with (first|((with_reducible refine bK (N:=2) rfl ?_);refine bJ zR (N:=2) zR (cs := #[.int .u64 bH,.int .u64 cO]) (t:=179) zG ?_;intro akq hg w5 hbox hb;obtain ⟨HB,sN,aoU,aoV⟩:=zA4 (ak zB hb) hbox (zg hg zB) (zg hg zB);clear hb hbox hg))
  (try simp only [Act.put,List.setIfInBounds_toArray,List.set_cons_zero,List.set_cons_succ])
  go_cut [13] (fun v13 wc=>∃ (kq:Nat) (akr:Bool),v13 = .bool akr∧aj (bW.j0 kq akr bH cO=some r)∧aj (kq≤k)∧aj (wc.heap[akq]? = some (.cells #[.int .u64 bH,.int .u64 cO] 179 (0,0)))∧aj (Below w.heap.size w wc))
  case first =>
   have H:=HC4.out
   clear HC4
   by_cases c6:bH > 0
   ·rw [if_pos c6] at H
    have iJ:=decide_eq_true c6
    clear c6
    (first|rw [iJ]|(simp only [cZ,dB];rw [iJ])|skip)
    have H':=aj.mk H
    clear H
    obtain ⟨_,_⟩:=zC2 sN.out
    obtain ⟨_,_⟩:=zF2 sN.out
    go_wp2
    go_meet
    case rel=>exact ⟨_,(true),zT,H',⟨by first|omega|exact Nat.le_refl _⟩,⟨zK sN⟩,⟨zB⟩⟩
   ·rw [if_neg c6] at H
    have iJ:=decide_eq_false c6
    clear c6
    (first|rw [iJ]|(simp only [cZ,dB];rw [iJ])|skip)
    have H':=aj.mk H
    clear H
    obtain ⟨_,_⟩:=zC2 sN.out
    obtain ⟨_,_⟩:=zF2 sN.out
    go_wp2
    go_meet
    case rel=>exact ⟨_,(decide (cO > 9223372036854775807)),zT,H',⟨by first|omega|exact Nat.le_refl _⟩,⟨zK sN⟩,⟨zB⟩⟩
  case rest =>
   clear HC4
   obtain ⟨kq,akr,rfl,HA,HJ3,sN,HB⟩:=hcut
   cases kq with
   | zero=>exact absurd HA.out (by simp [bW.j0])
   | succ kj3 =>
    have H:=HA.out
    clear HA
    simp only [bW.j0] at H
    by_cases c9:akr=true
    ·subst c9
     rw [if_pos rfl] at H;try dsimp only at H
     obtain rfl:=Option.some.inj H
     go_wp2
     go_ret
     exact ⟨zS,zB⟩
    ·replace c9:=Bool.eq_false_iff.mpr c9
     subst c9
     rw [if_neg (show ¬ (false=true) by decide)] at H;try dsimp only at H
     obtain rfl:=Option.some.inj H
     obtain ⟨_,_⟩:=zC2 sN.out
     obtain ⟨_,_⟩:=zF2 sN.out
     go_wp2
     go_ret
     exact ⟨zS,zB⟩
 ·replace c3:=Bool.eq_false_iff.mpr c3
  subst c3
  rw [if_neg (show ¬ (false=true) by decide)] at H;try dsimp only at H
  by_cases c11:bH > 0
  ·rw [if_pos c11] at H
   have jf:=decide_eq_true c11
   clear c11
   obtain rfl:=Option.some.inj H
   go_enter Tryz.func125,Tryz.ntmps125
   go_wp2_with (first|((with_reducible refine bK (N:=2) rfl ?_);refine bJ zR (N:=2) zR (cs := #[.int .u64 bH,.int .u64 cO]) (t:=179) zG ?_;intro akq hg w12 hbox hb;obtain ⟨HB,sN,aoU,aoV⟩:=zA4 (ak zB hb) hbox (zg hg zB) (zg hg zB);clear hb hbox hg;obtain ⟨_,_⟩:=zC2 sN.out;obtain ⟨_,_⟩:=zF2 sN.out))
   go_ret
   exact ⟨zS,zB⟩
  ·rw [if_neg c11] at H
   have jf:=decide_eq_false c11
   clear c11
   by_cases c14:cO > 9223372036854775807
   ·rw [if_pos c14] at H
    have acO:=decide_eq_true c14
    clear c14
    obtain rfl:=Option.some.inj H
    go_enter Tryz.func125,Tryz.ntmps125
    go_wp2_with (first|((with_reducible refine bK (N:=2) rfl ?_);refine bJ zR (N:=2) zR (cs := #[.int .u64 bH,.int .u64 cO]) (t:=179) zG ?_;intro akq hg w15 hbox hb;obtain ⟨HB,sN,aoU,aoV⟩:=zA4 (ak zB hb) hbox (zg hg zB) (zg hg zB);clear hb hbox hg;obtain ⟨_,_⟩:=zC2 sN.out;obtain ⟨_,_⟩:=zF2 sN.out))
    go_ret
    exact ⟨zS,zB⟩
   ·rw [if_neg c14] at H
    have acO:=decide_eq_false c14
    clear c14
    obtain rfl:=Option.some.inj H
    go_enter Tryz.func125,Tryz.ntmps125
    go_wp2_with (first|((with_reducible refine bK (N:=2) rfl ?_);refine bJ zR (N:=2) zR (cs := #[.int .u64 bH,.int .u64 cO]) (t:=179) zG ?_;intro akq hg w17 hbox hb;obtain ⟨HB,sN,aoU,aoV⟩:=zA4 (ak zB hb) hbox (zg hg zB) (zg hg zB);clear hb hbox hg;obtain ⟨_,_⟩:=zC2 sN.out;obtain ⟨_,_⟩:=zF2 sN.out))
    go_ret
    exact ⟨zS,zB⟩
def fO.f (bH cO a1:Int):Option (Int):=if a1≥64 then (if 0≤(wrap64 (a1 - 64)) then (some (Go.bits .and .u64 (shr .u64 bH (wrap64 (a1 - 64))) 1)) else (none)) else (if 0≤a1 then (some (Go.bits .and .u64 (shr .u64 cO a1) 1)) else (none))
set_option maxHeartbeats 8000000 in
set_option maxRecDepth 100000 in
theorem fO.calls (bH cO a1 r:Int) (w:World) (h:fO.f bH cO a1=some r) :
  Calls Tryz.prog 121 #[.agg #[.int .u64 bH,.int .u64 cO],.int .i64 a1] w fun e w'=>e = .returned (.int .u64 r)∧Below w.heap.size w w':=by
 have yR:=Tryz.underlying179
 have HB:=aj.mk (Below.refl w.heap.size w)
 have H:=h
 clear h
 unfold fO.f at H
 by_cases c3:a1≥64
 ·rw [if_pos c3] at H
  have gq:=decide_eq_true c3
  clear c3
  obtain ⟨ji4,zf⟩:∃ j_:Int,(wrap64 (a1 - 64))=j_:=⟨_,rfl⟩
  replace H:(if 0≤(ji4) then (some (Go.bits .and .u64 (shr .u64 bH (ji4)) 1)) else (none))=some r:=by first|(rw [zf] at H;exact H)|(simp only [zf] at H ⊢;exact H)
  have aDl:(IntKind.i64.wrap (a1 - 64))=ji4:=(cZ _).trans zf
  by_cases c5:0≤(ji4)
  ·rw [if_pos c5] at H
   have iR:=eq_true c5
   have acn:=decide_eq_true c5
   clear c5
   obtain ⟨ji6,yI⟩:∃ j_:Int,(shr .u64 bH (ji4))=j_:=⟨_,rfl⟩
   replace H:(some (Go.bits .and .u64 (ji6) 1))=some r:=by first|(rw [yI] at H;exact H)|(simp only [yI] at H ⊢;exact H)
   have axi:(bH / 2 ^ min (ji4).toNat 64)=ji6:=yI
   have axj:(ji4)≤64→(bH / 2 ^ (ji4).toNat)=ji6:=qw yI
   obtain rfl:=Option.some.inj H
   go_enter Tryz.func121,Tryz.ntmps121
   go_wp2_with (first|((with_reducible refine bK (N:=2) rfl ?_);refine bJ zR (N:=2) zR (cs := #[.int .u64 bH,.int .u64 cO]) (t:=179) zG ?_;intro axS hg w7 hbox hb;obtain ⟨HB,aia,axT,axU⟩:=zA4 (ak zB hb) hbox (zg hg zB) (zg hg zB);clear hb hbox hg;obtain ⟨_,_⟩:=zC2 aia.out;obtain ⟨_,_⟩:=zF2 aia.out))
   go_ret
   exact ⟨by first|rfl|(simp [bT,bU] <;> rfl)|(simp only [← zf,← yI];first|rfl|(simp [bT,bU] <;> rfl))|(simp [*,bT,bU] <;> rfl),zB⟩
  ·rw [if_neg c5] at H
   exact absurd H (by simp)
 ·rw [if_neg c3] at H
  have gq:=decide_eq_false c3
  clear c3
  by_cases c9:0≤a1
  ·rw [if_pos c9] at H
   have sO:=eq_true c9
   have agr:=decide_eq_true c9
   clear c9
   obtain ⟨dK,kE⟩:∃ j_:Int,(shr .u64 cO a1)=j_:=⟨_,rfl⟩
   replace H:(some (Go.bits .and .u64 (dK) 1))=some r:=by first|(rw [kE] at H;exact H)|(simp only [kE] at H ⊢;exact H)
   have alL:(cO / 2 ^ min a1.toNat 64)=dK:=kE
   have apK:a1≤64→(cO / 2 ^ a1.toNat)=dK:=qw kE
   obtain rfl:=Option.some.inj H
   go_enter Tryz.func121,Tryz.ntmps121
   go_wp2_with (first|((with_reducible refine bK (N:=2) rfl ?_);refine bJ zR (N:=2) zR (cs := #[.int .u64 bH,.int .u64 cO]) (t:=179) zG ?_;intro axS hg w11 hbox hb;obtain ⟨HB,aia,axT,axU⟩:=zA4 (ak zB hb) hbox (zg hg zB) (zg hg zB);clear hb hbox hg;obtain ⟨_,_⟩:=zC2 aia.out;obtain ⟨_,_⟩:=zF2 aia.out))
   go_ret
   exact ⟨by first|rfl|(simp [bT,bU] <;> rfl)|(simp only [← kE];first|rfl|(simp [bT,bU] <;> rfl))|(simp [*,bT,bU] <;> rfl),zB⟩
  ·rw [if_neg c9] at H
   exact absurd H (by simp)
end Go.Proofs.YtpondkggmcmpfaaGreatDoor.QA
