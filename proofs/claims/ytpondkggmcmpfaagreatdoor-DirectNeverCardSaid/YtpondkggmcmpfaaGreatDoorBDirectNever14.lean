/- Joined by wip/tools/bundle.py out of: QAx35 QAx36 QAx37 QAx38 QAx39 QAx40. -/
import Derived.Test.YtpondkggmcmpfaaGreatDoorBDirectNever0
import Derived.Test.YtpondkggmcmpfaaGreatDoorBDirectNever1
import Derived.Test.YtpondkggmcmpfaaGreatDoorBDirectNever9
import Derived.Test.YtpondkggmcmpfaaGreatDoorBDirectNever13
import Derived.Test.YtpondkggmcmpfaaGreatDoorBDirectNever3
namespace Go.Proofs.YtpondkggmcmpfaaGreatDoor.QA
open Go.Proofs.YtpondkggmcmpfaaGreatDoor.T
open Go.RowKit Go.Proofs.YtpondkggmcmpfaaGreatDoorW.PrintWords Go.Proofs.YtpondkggmcmpfaaGreatDoorW.PrintLast Go.Proofs.YtpondkggmcmpfaaGreatDoorW.PrintMore
attribute [local go_sem] dV dP dQ fC fD
set_option linter.unusedVariables false
set_option linter.unusedSimpArgs false
def dW.j0:Nat→Bool→Bool→Int→Int→Option (Int)
 | 0,_,_,_,_=>none
 | k+1,x7,x28,amX,amY=>if x28=true then ((gW.f amX amY 0 1).bind fun asU=>((bU.f k asU.1 asU.2 x7).bind fun alx=>(some alx))) else ((bU.f k amX amY x7).bind fun aly=>(some aly))
def dW.f (k:Nat) (a0 a1:Int):Option (Int):=if a1=0 then (some 0) else ((dK.f a0).bind fun aeY=>((dK.f a1).bind fun aeZ=>((fE.f k 0 aeY aeZ).bind fun ahE=>(if ((decide (a0 < 0)) != (decide (a1 < 0)))=true then (dW.j0 k ((decide (a0 < 0)) != (decide (a1 < 0))) (decide (ahE.2.2 > 0)) ahE.1 ahE.2.1) else (dW.j0 k ((decide (a0 < 0)) != (decide (a1 < 0))) false ahE.1 ahE.2.1)))))
set_option maxHeartbeats 8000000 in
set_option maxRecDepth 100000 in
theorem dW.calls (k:Nat) (a0 a1 r:Int) (w:World) (h:dW.f k a0 a1=some r) :
  Calls Tryz.prog 144 #[.int .i64 a0,.int .i64 a1] w fun e w'=>e = .returned (.int .i64 r)∧Below w.heap.size w w':=by
 have yE:=Tryz.underlying179
 have HB:=aj.mk (Below.refl w.heap.size w)
 have H:=h
 clear h
 unfold dW.f at H
 by_cases c3:a1=0
 ·rw [if_pos c3] at H
  have fQ:(a1 == 0)=true:=beq_iff_eq.mpr c3
  have wC:(a1 != 0)=false:=bne_eq_false_iff_eq.mpr c3
  clear c3
  obtain rfl:=Option.some.inj H
  go_enter Tryz.func144,Tryz.ntmps144
  go_wp2
  go_ret
  exact ⟨zS,zB⟩
 ·rw [if_neg c3] at H
  have fQ:(a1 == 0)=false:=beq_eq_false_iff_ne.mpr c3
  have wC:(a1 != 0)=true:=bne_iff_ne.mpr c3
  replace H:=zO H
  obtain ⟨aeY,A4,H⟩:=H
  try dsimp only at H
  replace H:=zO H
  obtain ⟨aeZ,A5,H⟩:=H
  try dsimp only at H
  replace H:=zO H
  obtain ⟨⟨wF,wG,aq1⟩,A6,H⟩:=H
  try dsimp only at H
  rcases Bool.eq_false_or_eq_true ((decide (a0 < 0)) != (decide (a1 < 0))) with hsv|hsv
  ·have sZ:((decide (a0 < 0)) != (decide (a1 < 0)))=true:=hsv
   have anX:((decide (a0 < 0)) == (decide (a1 < 0)))=false:=by simpa using hsv
   have HC7:=aj.mk H
   clear H
   go_enter Tryz.func144,Tryz.ntmps144
   go_upto_region 5 with (first|((with_reducible refine ay (f:=120) rfl ?_);refine aH (some 12) rfl rfl Tryz.func120 (by kernel_rfl) rfl #[.int .i64 a0] rfl zL ?_;(with_reducible refine (dK.calls a0 aeY _ A4.out).mono ?_);rintro e w' ⟨rfl,⟨nd,rfl⟩⟩;refine ⟨_,rfl,?_⟩)|((with_reducible refine ay (f:=120) rfl ?_);refine aH (some 15) rfl rfl Tryz.func120 (by kernel_rfl) rfl #[.int .i64 a1] rfl zL ?_;(with_reducible refine (dK.calls a1 aeZ _ A5.out).mono ?_);rintro e w' ⟨rfl,⟨nd,rfl⟩⟩;refine ⟨_,rfl,?_⟩)|((with_reducible refine ay (f:=172) rfl ?_);refine aH (some 16) rfl rfl Tryz.func172 (by kernel_rfl) rfl #[.agg #[.int .u64 0,.int .u64 aeY],.int .u64 aeZ] rfl zL ?_;(with_reducible refine (fE.calls k 0 aeY aeZ wF wG aq1 _ A6.out).mono ?_);rintro e w8 ⟨rfl,hb⟩;refine ⟨_,rfl,?_⟩;replace HB:=aj.mk (ak zB hb);(try clear hb))|((with_reducible refine bF (N:=5) rfl ?_);refine bG zR (N:=5) zR (cs := #[.int .u64 0,.int .u64 0]) (t:=179) zG ?_;intro ahF hg w9 hbox hb;obtain ⟨HB,kD,awN,awO⟩:=zA4 (ak zB hb) hbox (zg hg zB) (zg hg zB);clear hb hbox hg;obtain ⟨_,_⟩:=zC2 kD.out;obtain ⟨_,_⟩:=zF2 kD.out))
   (try simp only [Act.put,List.setIfInBounds_toArray,List.set_cons_zero,List.set_cons_succ])
   go_cut [28] (fun v28 wc=>∃ (kq:Nat) (abz:Bool),v28 = .bool abz∧aj (dW.j0 kq ((decide (a0 < 0)) != (decide (a1 < 0))) abz wF wG=some r)∧aj (kq≤k)∧aj (wc.heap[ahF]? = some (.cells #[.int .u64 wF,.int .u64 wG] 179 (0,0)))∧aj (Below w.heap.size w wc))
   case first =>
    have H:=HC7.out
    clear HC7
    by_cases c11:((decide (a0 < 0)) != (decide (a1 < 0)))=true
    ·rw [if_pos c11] at H
     have iQ:((decide (a0 < 0)) != (decide (a1 < 0)))=true:=c11
     (try (have xH:decide ((decide (a0 < 0))=(decide (a1 < 0)))=false:=by simpa using c11))
     (try (have anY:((decide (a0 < 0)) == (decide (a1 < 0)))=false:=by simpa using c11))
     (try (have awP:¬ ((decide (a0 < 0))=(decide (a1 < 0))):=by simpa using c11))
     clear c11
     (first|rw [iQ]|(simp only [bY,dw];rw [iQ])|skip)
     have H':=aj.mk H
     clear H
     go_wp2
     go_meet
     case rel=>exact ⟨_,(decide (aq1 > 0)),zT,H',⟨by first|omega|exact Nat.le_refl _⟩,⟨by refine zD ?_;refine aY (cs := #[.int .u64 wF,.int .u64 0]) ?_ 1 _ rfl;refine zD ?_;refine aY (cs := #[.int .u64 0,.int .u64 0]) ?_ 0 _ rfl;refine zD ?_;exact kD.out⟩,⟨zB⟩⟩
    ·rw [if_neg c11] at H
     have iQ:((decide (a0 < 0)) != (decide (a1 < 0)))=false:=by simpa using c11
     exact absurd (sZ.symm.trans iQ) (by decide)
   case rest =>
    clear HC7
    obtain ⟨kq,abz,rfl,HA,HJ6,kD,HB⟩:=hcut
    cases kq with
    | zero=>exact absurd HA.out (by simp [dW.j0])
    | succ kj6 =>
     have H:=HA.out
     clear HA
     simp only [dW.j0] at H
     by_cases c12:abz=true
     ·subst c12
      rw [if_pos rfl] at H;try dsimp only at H
      replace H:=zO H
      obtain ⟨⟨ab6,adT⟩,A13,H⟩:=H
      try dsimp only at H
      replace H:=zO H
      obtain ⟨alx,A14,H⟩:=H
      try dsimp only at H
      obtain rfl:=Option.some.inj H
      obtain ⟨_,_⟩:=zC2 kD.out
      obtain ⟨_,_⟩:=zF2 kD.out
      go_wp2_with (first|((with_reducible refine ay (f:=124) rfl ?_);refine aH (some 31) rfl rfl Tryz.func124 (by kernel_rfl) rfl #[.agg #[.int .u64 wF,.int .u64 wG],.agg #[.int .u64 0,.int .u64 1]] rfl zL ?_;(with_reducible refine (gW.calls wF wG 0 1 ab6 adT _ A13.out).mono ?_);rintro e w16 ⟨rfl,hb⟩;refine ⟨_,rfl,?_⟩;obtain ⟨kD,HB⟩:=zA2 (aA (zK kD) hb) (ak zB hb);(try clear hb);obtain ⟨_,_⟩:=zC2 kD.out;obtain ⟨_,_⟩:=zF2 kD.out)|((with_reducible refine ay (f:=125) rfl ?_);refine aH (some 34) rfl rfl Tryz.func125 (by kernel_rfl) rfl #[.agg #[.int .u64 ab6,.int .u64 adT],.bool true] rfl zL ?_;(with_reducible refine (bU.calls kj6 ab6 adT true alx _ (by have h:=A14.out;rw [sZ] at h;exact h)).mono ?_);rintro e w18 ⟨rfl,hb⟩;refine ⟨_,rfl,?_⟩;obtain ⟨kD,HB⟩:=zA2 (aA (g:=ahF) (o := .cells #[.int .u64 ab6,.int .u64 adT] 179 (0,0)) (by refine zD ?_;refine aY (cs := #[.int .u64 ab6,.int .u64 wG]) ?_ 1 _ rfl;refine zD ?_;refine aY (cs := #[.int .u64 wF,.int .u64 wG]) ?_ 0 _ rfl;refine zD ?_;exact kD.out) hb) (ak zB hb);(try clear hb)))
      go_ret
      exact ⟨zS,zB⟩
     ·replace c12:=Bool.eq_false_iff.mpr c12
      subst c12
      rw [if_neg (show ¬ (false=true) by decide)] at H;try dsimp only at H
      replace H:=zO H
      obtain ⟨aly,A19,H⟩:=H
      try dsimp only at H
      obtain rfl:=Option.some.inj H
      obtain ⟨_,_⟩:=zC2 kD.out
      obtain ⟨_,_⟩:=zF2 kD.out
      go_wp2_with (first|((with_reducible refine ay (f:=125) rfl ?_);refine aH (some 34) rfl rfl Tryz.func125 (by kernel_rfl) rfl #[.agg #[.int .u64 wF,.int .u64 wG],.bool true] rfl zL ?_;(with_reducible refine (bU.calls kj6 wF wG true aly _ (by have h:=A19.out;rw [sZ] at h;exact h)).mono ?_);rintro e w21 ⟨rfl,hb⟩;refine ⟨_,rfl,?_⟩;obtain ⟨kD,HB⟩:=zA2 (aA (zK kD) hb) (ak zB hb);(try clear hb)))
      go_ret
      exact ⟨zS,zB⟩
  ·have sZ:((decide (a0 < 0)) != (decide (a1 < 0)))=false:=hsv
   have anX:((decide (a0 < 0)) == (decide (a1 < 0)))=true:=by simpa using hsv
   have HC7:=aj.mk H
   clear H
   go_enter Tryz.func144,Tryz.ntmps144
   go_upto_region 5 with (first|((with_reducible refine ay (f:=120) rfl ?_);refine aH (some 12) rfl rfl Tryz.func120 (by kernel_rfl) rfl #[.int .i64 a0] rfl zL ?_;(with_reducible refine (dK.calls a0 aeY _ A4.out).mono ?_);rintro e w' ⟨rfl,⟨nd,rfl⟩⟩;refine ⟨_,rfl,?_⟩)|((with_reducible refine ay (f:=120) rfl ?_);refine aH (some 15) rfl rfl Tryz.func120 (by kernel_rfl) rfl #[.int .i64 a1] rfl zL ?_;(with_reducible refine (dK.calls a1 aeZ _ A5.out).mono ?_);rintro e w' ⟨rfl,⟨nd,rfl⟩⟩;refine ⟨_,rfl,?_⟩)|((with_reducible refine ay (f:=172) rfl ?_);refine aH (some 16) rfl rfl Tryz.func172 (by kernel_rfl) rfl #[.agg #[.int .u64 0,.int .u64 aeY],.int .u64 aeZ] rfl zL ?_;(with_reducible refine (fE.calls k 0 aeY aeZ wF wG aq1 _ A6.out).mono ?_);rintro e w8 ⟨rfl,hb⟩;refine ⟨_,rfl,?_⟩;replace HB:=aj.mk (ak zB hb);(try clear hb))|((with_reducible refine bF (N:=5) rfl ?_);refine bG zR (N:=5) zR (cs := #[.int .u64 0,.int .u64 0]) (t:=179) zG ?_;intro ahF hg w9 hbox hb;obtain ⟨HB,kD,awN,awO⟩:=zA4 (ak zB hb) hbox (zg hg zB) (zg hg zB);clear hb hbox hg;obtain ⟨_,_⟩:=zC2 kD.out;obtain ⟨_,_⟩:=zF2 kD.out))
   (try simp only [Act.put,List.setIfInBounds_toArray,List.set_cons_zero,List.set_cons_succ])
   go_cut [28] (fun v28 wc=>∃ (kq:Nat) (abz:Bool),v28 = .bool abz∧aj (dW.j0 kq ((decide (a0 < 0)) != (decide (a1 < 0))) abz wF wG=some r)∧aj (kq≤k)∧aj (wc.heap[ahF]? = some (.cells #[.int .u64 wF,.int .u64 wG] 179 (0,0)))∧aj (Below w.heap.size w wc))
   case first =>
    have H:=HC7.out
    clear HC7
    by_cases c11:((decide (a0 < 0)) != (decide (a1 < 0)))=true
    ·rw [if_pos c11] at H
     have iQ:((decide (a0 < 0)) != (decide (a1 < 0)))=true:=c11
     exact absurd (sZ.symm.trans iQ) (by decide)
    ·rw [if_neg c11] at H
     have iQ:((decide (a0 < 0)) != (decide (a1 < 0)))=false:=by simpa using c11
     (try (have xH:decide ((decide (a0 < 0))=(decide (a1 < 0)))=true:=by simpa using c11))
     (try (have anY:((decide (a0 < 0)) == (decide (a1 < 0)))=true:=by simpa using c11))
     clear c11
     (first|rw [iQ]|(simp only [bY,dw];rw [iQ])|skip)
     have H':=aj.mk H
     clear H
     go_wp2
     go_meet
     case rel=>exact ⟨_,(false),zT,H',⟨by first|omega|exact Nat.le_refl _⟩,⟨by refine zD ?_;refine aY (cs := #[.int .u64 wF,.int .u64 0]) ?_ 1 _ rfl;refine zD ?_;refine aY (cs := #[.int .u64 0,.int .u64 0]) ?_ 0 _ rfl;refine zD ?_;exact kD.out⟩,⟨zB⟩⟩
   case rest =>
    clear HC7
    obtain ⟨kq,abz,rfl,HA,HJ6,kD,HB⟩:=hcut
    cases kq with
    | zero=>exact absurd HA.out (by simp [dW.j0])
    | succ kj6 =>
     have H:=HA.out
     clear HA
     simp only [dW.j0] at H
     by_cases c12:abz=true
     ·subst c12
      rw [if_pos rfl] at H;try dsimp only at H
      replace H:=zO H
      obtain ⟨⟨ab6,adT⟩,A13,H⟩:=H
      try dsimp only at H
      replace H:=zO H
      obtain ⟨alx,A14,H⟩:=H
      try dsimp only at H
      obtain rfl:=Option.some.inj H
      obtain ⟨_,_⟩:=zC2 kD.out
      obtain ⟨_,_⟩:=zF2 kD.out
      go_wp2_with (first|((with_reducible refine ay (f:=124) rfl ?_);refine aH (some 31) rfl rfl Tryz.func124 (by kernel_rfl) rfl #[.agg #[.int .u64 wF,.int .u64 wG],.agg #[.int .u64 0,.int .u64 1]] rfl zL ?_;(with_reducible refine (gW.calls wF wG 0 1 ab6 adT _ A13.out).mono ?_);rintro e w16 ⟨rfl,hb⟩;refine ⟨_,rfl,?_⟩;obtain ⟨kD,HB⟩:=zA2 (aA (zK kD) hb) (ak zB hb);(try clear hb);obtain ⟨_,_⟩:=zC2 kD.out;obtain ⟨_,_⟩:=zF2 kD.out)|((with_reducible refine ay (f:=125) rfl ?_);refine aH (some 34) rfl rfl Tryz.func125 (by kernel_rfl) rfl #[.agg #[.int .u64 ab6,.int .u64 adT],.bool false] rfl zL ?_;(with_reducible refine (bU.calls kj6 ab6 adT false alx _ (by have h:=A14.out;rw [sZ] at h;exact h)).mono ?_);rintro e w18 ⟨rfl,hb⟩;refine ⟨_,rfl,?_⟩;obtain ⟨kD,HB⟩:=zA2 (aA (g:=ahF) (o := .cells #[.int .u64 ab6,.int .u64 adT] 179 (0,0)) (by refine zD ?_;refine aY (cs := #[.int .u64 ab6,.int .u64 wG]) ?_ 1 _ rfl;refine zD ?_;refine aY (cs := #[.int .u64 wF,.int .u64 wG]) ?_ 0 _ rfl;refine zD ?_;exact kD.out) hb) (ak zB hb);(try clear hb)))
      go_ret
      exact ⟨zS,zB⟩
     ·replace c12:=Bool.eq_false_iff.mpr c12
      subst c12
      rw [if_neg (show ¬ (false=true) by decide)] at H;try dsimp only at H
      replace H:=zO H
      obtain ⟨aly,A19,H⟩:=H
      try dsimp only at H
      obtain rfl:=Option.some.inj H
      obtain ⟨_,_⟩:=zC2 kD.out
      obtain ⟨_,_⟩:=zF2 kD.out
      go_wp2_with (first|((with_reducible refine ay (f:=125) rfl ?_);refine aH (some 34) rfl rfl Tryz.func125 (by kernel_rfl) rfl #[.agg #[.int .u64 wF,.int .u64 wG],.bool false] rfl zL ?_;(with_reducible refine (bU.calls kj6 wF wG false aly _ (by have h:=A19.out;rw [sZ] at h;exact h)).mono ?_);rintro e w21 ⟨rfl,hb⟩;refine ⟨_,rfl,?_⟩;obtain ⟨kD,HB⟩:=zA2 (aA (zK kD) hb) (ak zB hb);(try clear hb)))
      go_ret
      exact ⟨zS,zB⟩
end Go.Proofs.YtpondkggmcmpfaaGreatDoor.QA
namespace Go.Proofs.YtpondkggmcmpfaaGreatDoor.QA
open Go.Proofs.YtpondkggmcmpfaaGreatDoor.T
open Go.RowKit Go.Proofs.YtpondkggmcmpfaaGreatDoorW.PrintWords Go.Proofs.YtpondkggmcmpfaaGreatDoorW.PrintLast Go.Proofs.YtpondkggmcmpfaaGreatDoorW.PrintMore
attribute [local go_sem] dV dP dQ fC fD
set_option linter.unusedVariables false
set_option linter.unusedSimpArgs false
mutual
def aG.j0:Nat→List Int→Bool→Option (List Int × Int)
 | 0,_,_=>none
 | k+1,x0,x22=>if x22=true then (some (([]:List Int),7)) else (aG.l0 k x0 x0 (x0.length:Int) 0)
def aG.l0:Nat→List Int→List Int→Int→Int→Option (List Int × Int)
 | 0,_,_,_,_=>none
 | k+1,x0,x23,x24,x25=>if x25 < x24 then (if 0≤x25 then (if x25 < (x23.length:Int) then ((iM.f (rd x23 x25)).bind fun adU=>(if adU > 1099511627776 then (some (([]:List Int),7)) else (aG.l0 k x0 x23 x24 (wrap64 (x25+1))))) else (none)) else (none)) else ((eP.f k x0).bind fun qQ=>(if qQ < 268435456 then (some (([]:List Int),8)) else (aG.l1 k qQ ([]:List Int) ([]:List Int) 16384 x0 (x0.length:Int) 0)))
def aG.l1:Nat→Int→List Int→List Int→Int→List Int→Int→Int→Option (List Int × Int)
 | 0,_,_,_,_,_,_,_=>none
 | k+1,x6,x7,x8,x9,x37,x38,x39=>if x39 < x38 then (if 0≤x39 then (if x39 < (x37.length:Int) then ((dW.f k (wrap64 ((rd x37 x39)*16384)) x6).bind fun qL=>(if x7.length < 17592186044416 then (if x8.length < 17592186044416 then (aG.l1 k x6 (x7 ++ [qL]) (x8 ++ [wrap64 ((wrap64 ((rd x37 x39)*16384)) - (wrap64 (qL*x6)))]) (wrap64 (x9 - qL)) x37 x38 (wrap64 (x39+1))) else (none)) else (none))) else (none)) else (none)) else (aG.l2 k x7 x8 x9)
def aG.l2:Nat→List Int→List Int→Int→Option (List Int × Int)
 | 0,_,_,_=>none
 | k+1,x7,x8,x9=>if x9 > 0 then (aG.l3 k x7 x8 x9 0 (x8.length:Int) 0) else (some (x7,0))
def aG.l3:Nat→List Int→List Int→Int→Int→Int→Int→Option (List Int × Int)
 | 0,_,_,_,_,_,_=>none
 | k+1,x7,x8,x9,x13,x67,x68=>if x68 < x67 then (if 0≤x68 then (if x68 < (x8.length:Int) then (if 0≤x13 then (if x13 < (x8.length:Int) then (if (rd x8 x68) > (rd x8 x13) then (aG.l3 k x7 x8 x9 x68 x67 (wrap64 (x68+1))) else (aG.l3 k x7 x8 x9 x13 x67 (wrap64 (x68+1)))) else (none)) else (none)) else (none)) else (none)) else (if 0≤x13 then (if x13 < (x7.length:Int) then (if x13 < (x8.length:Int) then (aG.l2 k (x7.set (x13:Int).toNat (wrap64 ((rd x7 x13)+1))) (x8.set (x13:Int).toNat (-1)) (wrap64 (x9 - 1))) else (none)) else (none)) else (none))
end
def aG.f (k:Nat) (l0:List Int):Option (List Int × Int):=if (l0.length:Int) < 1 then (aG.j0 k l0 true) else (aG.j0 k l0 (decide ((l0.length:Int) > 1048576)))
set_option maxHeartbeats 8000000 in
set_option maxRecDepth 100000 in
theorem aG.calls (k:Nat) (A0:Option Addr) (c0:Nat) (l0 r1:List Int) (r2:Int) (w:World) (hr0:Kd.C (Kd.int .i64) w A0 l0.length l0) (hc0:l0.length≤c0) (h:aG.f k l0=some (r1,r2)) :
  Calls Tryz.prog 115 #[.slice A0 l0.length c0] w fun e w'=>∃ v0_:Value,e = .returned (.tuple #[v0_,.int .i64 r2])∧Kd.R (Kd.int .i64) 2 w' w.heap.size (fun _=>True) v0_ r1∧Below w.heap.size w w':=by
 have HR0:=aj.mk hr0
 have HC0:=aj.mk hc0
 clear hr0 hc0
 have HB:=aj.mk (Below.refl w.heap.size w)
 have H:=h
 clear h
 unfold aG.f at H
 have HC2:=aj.mk H
 clear H
 go_enter Tryz.func115,Tryz.ntmps115
 go_upto_region 1 with (fail)
 repeat (go_quiet (fail);go_upto_region 1 with (fail))
 go_cut [22] (fun v22 wc=>∃ (kq:Nat) (akl:Bool),v22 = .bool akl∧aj (aG.j0 kq l0 akl=some (r1,r2))∧aj (kq≤k)∧aj (Below w.heap.size w wc))
 case first =>
  have H:=HC2.out
  clear HC2
  by_cases c3:(l0.length:Int) < 1
  ·rw [if_pos c3] at H
   have fQ:=decide_eq_true c3
   have wC:decide (l0.length < 1)=true:=decide_eq_true (by omega)
   clear c3
   (first|rw [fQ]|(simp only [bY,dw];rw [fQ])|skip)
   have H':=aj.mk H
   clear H
   go_wp2
   repeat (go_quiet (fail);try go_wp2)
   go_meet
   case rel=>exact ⟨_,(true),zT,H',⟨by first|omega|exact Nat.le_refl _⟩,⟨zB⟩⟩
  ·rw [if_neg c3] at H
   have fQ:=decide_eq_false c3
   have wC:decide (l0.length < 1)=false:=decide_eq_false (by omega)
   clear c3
   (first|rw [fQ]|(simp only [bY,dw];rw [fQ])|skip)
   have H':=aj.mk H
   clear H
   go_wp2
   repeat (go_quiet (fail);try go_wp2)
   go_meet
   case rel=>exact ⟨_,(decide ((l0.length:Int) > 1048576)),zT,H',⟨by first|omega|exact Nat.le_refl _⟩,⟨zB⟩⟩
 case rest =>
  clear HC2
  obtain ⟨kq,akl,rfl,HA,HJ1,HB⟩:=hcut
  cases kq with
  | zero=>exact absurd HA.out (by simp [aG.j0])
  | succ kj1 =>
   have H:=HA.out
   clear HA
   simp only [aG.j0] at H
   by_cases c4:akl=true
   ·subst c4
    rw [if_pos rfl] at H;try dsimp only at H
    simp only [Option.some.injEq,Prod.mk.injEq] at H
    obtain ⟨rfl,rfl⟩:=H
    go_wp2
    repeat (go_quiet (fail);try go_wp2)
    go_ret2
    exact ⟨_,zS,by first|exact Kd.jW _ _ _ _ _|exact Kd.qj _ _ _ _ _|exact Kd.oH _ _ _ _ _|exact Kd.qm _ _ _ _ _|exact Kd.pJ _ _ _ _ _,zB⟩
   ·replace c4:=Bool.eq_false_iff.mpr c4
    subst c4
    rw [if_neg (show ¬ (false=true) by decide)] at H;try dsimp only at H
    have H':=aj.mk H
    clear H
    go_wp2
    repeat (go_quiet (fail);try go_wp2)
    go_loopg [25] kj1 (fun kq v25 w'=>∃ (qR:Int),v25 = .int .i64 qR∧aj (aG.l0 kq l0 l0 (l0.length:Int) qR=some (r1,r2))∧aj (kq≤kj1)∧aj (Below w.heap.size w w'))
    case atStart=>exact ⟨(0),zT,H',⟨Nat.le_refl _⟩,⟨zB⟩⟩
    case round =>
     clear H'
     obtain ⟨qR,rfl,HA,HK2,HB⟩:=hrel
     cases gk with
     | zero=>exact absurd HA.out (by simp [aG.l0])
     | succ k2 =>
      have H:=HA.out
      clear HA
      simp only [aG.l0] at H
      by_cases c5:qR < (l0.length:Int)
      ·rw [if_pos c5] at H
       have gQ:=decide_eq_true c5
       clear c5
       by_cases c6:0≤qR
       ·rw [if_pos c6] at H
        have iw:=decide_eq_true c6
        clear c6
        by_cases c7:qR < (l0.length:Int)
        ·rw [if_pos c7] at H
         have jf:=decide_eq_true c7
         clear c7
         replace H:=zO H
         obtain ⟨adU,A8,H⟩:=H
         try dsimp only at H
         by_cases c9:adU > 1099511627776
         ·rw [if_pos c9] at H
          have qA:=decide_eq_true c9
          clear c9
          simp only [Option.some.injEq,Prod.mk.injEq] at H
          obtain ⟨rfl,rfl⟩:=H
          have agG:0≤(qR:Int):=of_decide_eq_true (by first|(with_reducible assumption)|assumption)
          have agH:qR < (l0.length:Int):=of_decide_eq_true (by first|(with_reducible assumption)|assumption)
          obtain ⟨awQ,aq2,aaF⟩:=Kd.iI HR0.out qR agG agH
          cases aq2
          replace aaF:=(HB.out.cell (World.block_lt_of_cell? w _ aaF)).trans aaF
          replace agG:=eq_true agG
          replace agH:=eq_true agH
          go_wp2_with (first|(go_at_call 142;(with_reducible refine (iM.calls (rd l0 qR) adU _ A8.out).mono ?_);rintro e w' ⟨rfl,⟨nd,rfl⟩⟩;(try exact ⟨rfl,_,zN⟩)))
          repeat (go_quiet (first|(go_at_call 142;(with_reducible refine (iM.calls (rd l0 qR) adU _ A8.out).mono ?_);rintro e w' ⟨rfl,⟨nd,rfl⟩⟩;(try exact ⟨rfl,_,zN⟩)));try go_wp2_with (first|(go_at_call 142;(with_reducible refine (iM.calls (rd l0 qR) adU _ A8.out).mono ?_);rintro e w' ⟨rfl,⟨nd,rfl⟩⟩;(try exact ⟨rfl,_,zN⟩))))
          go_ret2
          exact ⟨_,zS,by first|exact Kd.jW _ _ _ _ _|exact Kd.qj _ _ _ _ _|exact Kd.oH _ _ _ _ _|exact Kd.qm _ _ _ _ _|exact Kd.pJ _ _ _ _ _,zB⟩
         ·rw [if_neg c9] at H
          have qA:=decide_eq_false c9
          clear c9
          have H':=aj.mk H
          clear H
          have agG:0≤(qR:Int):=of_decide_eq_true (by first|(with_reducible assumption)|assumption)
          have agH:qR < (l0.length:Int):=of_decide_eq_true (by first|(with_reducible assumption)|assumption)
          obtain ⟨awQ,aq2,aaF⟩:=Kd.iI HR0.out qR agG agH
          cases aq2
          replace aaF:=(HB.out.cell (World.block_lt_of_cell? w _ aaF)).trans aaF
          replace agG:=eq_true agG
          replace agH:=eq_true agH
          go_wp2_with (first|(go_at_call 142;(with_reducible refine (iM.calls (rd l0 qR) adU _ A8.out).mono ?_);rintro e w' ⟨rfl,⟨nd,rfl⟩⟩;(try exact ⟨rfl,_,zN⟩)))
          repeat (go_quiet (first|(go_at_call 142;(with_reducible refine (iM.calls (rd l0 qR) adU _ A8.out).mono ?_);rintro e w' ⟨rfl,⟨nd,rfl⟩⟩;(try exact ⟨rfl,_,zN⟩)));try go_wp2_with (first|(go_at_call 142;(with_reducible refine (iM.calls (rd l0 qR) adU _ A8.out).mono ?_);rintro e w' ⟨rfl,⟨nd,rfl⟩⟩;(try exact ⟨rfl,_,zN⟩))))
          go_roundg k2
          case measure=>have:=HJ1.out;have:=HK2.out;omega
          case rel=>exact ⟨(wrap64 (qR+1)),zT,H',⟨by have:=HJ1.out;have:=HK2.out;omega⟩,⟨zB⟩⟩
        ·rw [if_neg c7] at H
         exact absurd H (by simp)
       ·rw [if_neg c6] at H
        exact absurd H (by simp)
      ·rw [if_neg c5] at H
       have gQ:=decide_eq_false c5
       clear c5
       replace H:=zO H
       obtain ⟨qQ,A10,H⟩:=H
       try dsimp only at H
       by_cases c11:qQ < 268435456
       ·rw [if_pos c11] at H
        have iQ:=decide_eq_true c11
        clear c11
        simp only [Option.some.injEq,Prod.mk.injEq] at H
        obtain ⟨rfl,rfl⟩:=H
        go_wp2_with (first|(go_at_call 143;(with_reducible refine (eP.calls k2 _ _ l0 qQ _ ?iR ?iT A10.out).mono ?_);(case iR=>repeat (first|exact (Kd.bK HR0.out HB.out)|(with_reducible refine Kd.jk ?_ _)|(with_reducible refine Kd.jM ?_ _)|(with_reducible refine Kd.kY ?_)));(case iT=>exact HC0.out);rintro e w' ⟨rfl,⟨nd,rfl⟩⟩;(try exact ⟨rfl,_,zN⟩)))
        repeat (go_quiet (first|(go_at_call 143;(with_reducible refine (eP.calls k2 _ _ l0 qQ _ ?iR ?iT A10.out).mono ?_);(case iR=>repeat (first|exact (Kd.bK HR0.out HB.out)|(with_reducible refine Kd.jk ?_ _)|(with_reducible refine Kd.jM ?_ _)|(with_reducible refine Kd.kY ?_)));(case iT=>exact HC0.out);rintro e w' ⟨rfl,⟨nd,rfl⟩⟩;(try exact ⟨rfl,_,zN⟩)));try go_wp2_with (first|(go_at_call 143;(with_reducible refine (eP.calls k2 _ _ l0 qQ _ ?iR ?iT A10.out).mono ?_);(case iR=>repeat (first|exact (Kd.bK HR0.out HB.out)|(with_reducible refine Kd.jk ?_ _)|(with_reducible refine Kd.jM ?_ _)|(with_reducible refine Kd.kY ?_)));(case iT=>exact HC0.out);rintro e w' ⟨rfl,⟨nd,rfl⟩⟩;(try exact ⟨rfl,_,zN⟩))))
        go_ret2
        exact ⟨_,zS,by first|exact Kd.jW _ _ _ _ _|exact Kd.qj _ _ _ _ _|exact Kd.oH _ _ _ _ _|exact Kd.qm _ _ _ _ _|exact Kd.pJ _ _ _ _ _,zB⟩
       ·rw [if_neg c11] at H
        have iQ:=decide_eq_false c11
        clear c11
        have H':=aj.mk H
        clear H
        go_wp2_with (first|(go_at_call 143;(with_reducible refine (eP.calls k2 _ _ l0 qQ _ ?iR ?iT A10.out).mono ?_);(case iR=>repeat (first|exact (Kd.bK HR0.out HB.out)|(with_reducible refine Kd.jk ?_ _)|(with_reducible refine Kd.jM ?_ _)|(with_reducible refine Kd.kY ?_)));(case iT=>exact HC0.out);rintro e w' ⟨rfl,⟨nd,rfl⟩⟩;(try exact ⟨rfl,_,zN⟩)))
        repeat (go_quiet (first|(go_at_call 143;(with_reducible refine (eP.calls k2 _ _ l0 qQ _ ?iR ?iT A10.out).mono ?_);(case iR=>repeat (first|exact (Kd.bK HR0.out HB.out)|(with_reducible refine Kd.jk ?_ _)|(with_reducible refine Kd.jM ?_ _)|(with_reducible refine Kd.kY ?_)));(case iT=>exact HC0.out);rintro e w' ⟨rfl,⟨nd,rfl⟩⟩;(try exact ⟨rfl,_,zN⟩)));try go_wp2_with (first|(go_at_call 143;(with_reducible refine (eP.calls k2 _ _ l0 qQ _ ?iR ?iT A10.out).mono ?_);(case iR=>repeat (first|exact (Kd.bK HR0.out HB.out)|(with_reducible refine Kd.jk ?_ _)|(with_reducible refine Kd.jM ?_ _)|(with_reducible refine Kd.kY ?_)));(case iT=>exact HC0.out);rintro e w' ⟨rfl,⟨nd,rfl⟩⟩;(try exact ⟨rfl,_,zN⟩))))
        try simp only [Act.put,List.setIfInBounds_toArray,List.set_cons_succ,List.set_cons_zero]
        go_loopg [7,8,9,39] k2 (fun kq v7 v8 v9 v39 w'=>∃ (zU:List Int) (ab7:List Int) (agI:Int) (oZ:Int),v9 = .int .i64 agI∧v39 = .int .i64 oZ∧aj (aG.l1 kq qQ zU ab7 agI l0 (l0.length:Int) oZ=some (r1,r2))∧aj (kq≤k2)∧aj (Kd.R (Kd.int .i64) 2 w' w.heap.size (fun k_=>some k_≠(v8:Value).ownBlock) v7 zU)∧aj (Kd.R (Kd.int .i64) 2 w' w.heap.size (fun k_=>some k_≠(v7:Value).ownBlock) v8 ab7)∧aj (Below w.heap.size w w'))
        case atStart=>exact ⟨(([]:List Int)),(([]:List Int)),(16384),(0),zT,zT,H',⟨Nat.le_refl _⟩,⟨by first|exact Kd.jW _ _ _ _ _|exact Kd.qj _ _ _ _ _|exact Kd.oH _ _ _ _ _|exact Kd.qm _ _ _ _ _|exact Kd.pJ _ _ _ _ _⟩,⟨by first|exact Kd.jW _ _ _ _ _|exact Kd.qj _ _ _ _ _|exact Kd.oH _ _ _ _ _|exact Kd.qm _ _ _ _ _|exact Kd.pJ _ _ _ _ _⟩,⟨zB⟩⟩
        case round =>
         clear H'
         try clear hx3
         obtain ⟨zU,ab7,agI,oZ,rfl,rfl,HA,HK3,jE,dN,HB⟩:=hrel
         cases gk with
         | zero=>exact absurd HA.out (by simp [aG.l1])
         | succ k3 =>
          have H:=HA.out
          clear HA
          simp only [aG.l1] at H
          by_cases c12:oZ < (l0.length:Int)
          ·rw [if_pos c12] at H
           have aaU:=decide_eq_true c12
           clear c12
           by_cases c13:0≤oZ
           ·rw [if_pos c13] at H
            have aaT:=decide_eq_true c13
            clear c13
            by_cases c14:oZ < (l0.length:Int)
            ·rw [if_pos c14] at H
             have acG:=decide_eq_true c14
             clear c14
             replace H:=zO H
             obtain ⟨qL,A15,H⟩:=H
             try dsimp only at H
             by_cases c16:zU.length < 17592186044416
             ·rw [if_pos c16] at H
              have anZ:=aj.mk c16
              clear c16
              obtain ⟨aq3,ahG⟩:∃ y_:List Int,y_=(zU ++ [qL]):=⟨_,rfl⟩
              replace H:(if ab7.length < 17592186044416 then (aG.l1 k3 qQ aq3 (ab7 ++ [wrap64 ((wrap64 ((rd l0 oZ)*16384)) - (wrap64 (qL*qQ)))]) (wrap64 (agI - qL)) l0 (l0.length:Int) (wrap64 (oZ+1))) else (none))=some (r1,r2):=by first|(rw [ahG];with_reducible exact H)|(have H2_:=(Option.bind_some _ _).symm.trans H;rw [ahG];with_reducible exact H2_)|(have H2_:=(Option.bind_some _ _).symm.trans H;with_reducible exact H2_)|with_reducible exact H|(rw [ahG];exact H)|exact H
              have an0:=aj.mk ahG
              clear ahG
              by_cases c17:ab7.length < 17592186044416
              ·rw [if_pos c17] at H
               have an1:=aj.mk c17
               clear c17
               obtain ⟨avc,ahH⟩:∃ y_:List Int,y_=(ab7 ++ [wrap64 ((wrap64 ((rd l0 oZ)*16384)) - (wrap64 (qL*qQ)))]):=⟨_,rfl⟩
               replace H:(aG.l1 k3 qQ aq3 avc (wrap64 (agI - qL)) l0 (l0.length:Int) (wrap64 (oZ+1)))=some (r1,r2):=by first|(rw [ahH];with_reducible exact H)|(have H2_:=(Option.bind_some _ _).symm.trans H;rw [ahH];with_reducible exact H2_)|(have H2_:=(Option.bind_some _ _).symm.trans H;with_reducible exact H2_)|with_reducible exact H|(rw [ahH];exact H)|exact H
               have an2:=aj.mk ahH
               clear ahH
               have H':=aj.mk H
               clear H
               have aq4:0≤(oZ:Int):=of_decide_eq_true (by first|(with_reducible assumption)|assumption)
               have aq5:oZ < (l0.length:Int):=of_decide_eq_true (by first|(with_reducible assumption)|assumption)
               obtain ⟨aCr,ayW,aiH⟩:=Kd.iI HR0.out oZ aq4 aq5
               cases ayW
               replace aiH:=(HB.out.cell (World.block_lt_of_cell? w _ aiH)).trans aiH
               replace aq4:=eq_true aq4
               replace aq5:=eq_true aq5
               go_wp2_with (first|(go_at_call 144;(with_reducible refine (dW.calls k3 (wrap64 ((rd l0 oZ)*16384)) qQ qL _ A15.out).mono ?_);rintro e w18 ⟨rfl,hb⟩;obtain ⟨jE,dN,HB⟩:=zA3 (Kd.ji (by (with_reducible repeat (first|apply Kd.aK|apply Kd.aQ|apply Kd.aW));exact jE.out) hb) (Kd.ji (by (with_reducible repeat (first|apply Kd.aK|apply Kd.aQ|apply Kd.aW));exact dN.out) hb) (ak zB hb);(try clear hb))|((with_reducible refine jP (b := .append) (xs := #[.tmp 47,.tmp 49]) rfl ?_);(try (refine kT (by rfl) ?_;dsimp only));at_builtin;refine Kd.kS (Kd.int .i64) (w0:=w) w.heap.size rfl (.tmp 47) (.tmp 49) 44 2 (.int .i64 0) 8 rfl Tryz.underlying44 wK rfl (by decide) (by omega) u7 zU qL [.int .i64 qL] (fun k_=>some k_≠(u8:Value).ownBlock) (fun _=>False) rfl rfl ?aP (fun _ hk=>hk.elim) ?aF ?aO ?aB ?aS ?aL ?_;(case aP=>exact rfl);(case aB=>exact zB);(case aF=>exact (fun k_ hk=>Kd.fresh' (Kd.lK (by (with_reducible repeat (first|apply Kd.aK|apply Kd.aQ|apply Kd.aW));exact dN.out)) k_ hk));(case aO=>exact (by (with_reducible repeat (first|apply Kd.aK|apply Kd.aQ|apply Kd.aW));exact jE.out));(case aS=>exact (bP zB));(case aL=>have:=anZ.out;omega);intro alz w19 ho hb hg hat;rw [← an0.out] at ho;obtain ⟨dN,HB,yG⟩:=zA3 (Kd.rY (ok:=(fun _=>True)) (by (with_reducible repeat (first|apply Kd.aK|apply Kd.aQ|apply Kd.aW));exact Kd.dO dN.out (fun _ hk=>⟨trivial,hk⟩)) hg hat) hb ho;clear ho hb hg hat)|((with_reducible refine jP (b := .append) (xs := #[.tmp 51,.tmp 58]) rfl ?_);(try (refine kT (by rfl) ?_;dsimp only));at_builtin;refine Kd.kS (Kd.int .i64) (w0:=w) w.heap.size rfl (.tmp 51) (.tmp 58) 44 2 (.int .i64 0) 8 rfl Tryz.underlying44 wK rfl (by decide) (by omega) u8 ab7 (wrap64 ((wrap64 ((rd l0 oZ)*16384)) - (wrap64 (qL*qQ)))) [.int .i64 (wrap64 ((wrap64 ((rd l0 oZ)*16384)) - (wrap64 (qL*qQ))))] (fun k_=>some k_≠(alz:Value).ownBlock) (fun _=>False) rfl rfl ?aP (fun _ hk=>hk.elim) ?aF ?aO ?aB ?aS ?aL ?_;(case aP=>exact rfl);(case aB=>exact zB);(case aF=>exact (fun k_ hk=>Kd.fresh' (Kd.lK (by (with_reducible repeat (first|apply Kd.aK|apply Kd.aQ|apply Kd.aW));exact yG.out)) k_ hk));(case aO=>exact (by (with_reducible repeat (first|apply Kd.aK|apply Kd.aQ|apply Kd.aW));exact Kd.dO dN.out (fun _ hk=>hk.2)));(case aS=>exact (bP zB));(case aL=>have:=an1.out;omega);intro avd w20 ho hb hg hat;rw [← an2.out] at ho;obtain ⟨yG,HB,an3⟩:=zA3 (Kd.rY (ok:=(fun _=>True)) (by (with_reducible repeat (first|apply Kd.aK|apply Kd.aQ|apply Kd.aW));exact Kd.dO yG.out (fun _ hk=>⟨trivial,hk⟩)) hg hat) hb ho;clear ho hb hg hat))
               repeat (go_quiet (first|(go_at_call 144;(with_reducible refine (dW.calls k3 (wrap64 ((rd l0 oZ)*16384)) qQ qL _ A15.out).mono ?_);rintro e w18 ⟨rfl,hb⟩;obtain ⟨jE,dN,HB⟩:=zA3 (Kd.ji (by (with_reducible repeat (first|apply Kd.aK|apply Kd.aQ|apply Kd.aW));exact jE.out) hb) (Kd.ji (by (with_reducible repeat (first|apply Kd.aK|apply Kd.aQ|apply Kd.aW));exact dN.out) hb) (ak zB hb);(try clear hb))|((with_reducible refine jP (b := .append) (xs := #[.tmp 47,.tmp 49]) rfl ?_);(try (refine kT (by rfl) ?_;dsimp only));at_builtin;refine Kd.kS (Kd.int .i64) (w0:=w) w.heap.size rfl (.tmp 47) (.tmp 49) 44 2 (.int .i64 0) 8 rfl Tryz.underlying44 wK rfl (by decide) (by omega) u7 zU qL [.int .i64 qL] (fun k_=>some k_≠(u8:Value).ownBlock) (fun _=>False) rfl rfl ?aP (fun _ hk=>hk.elim) ?aF ?aO ?aB ?aS ?aL ?_;(case aP=>exact rfl);(case aB=>exact zB);(case aF=>exact (fun k_ hk=>Kd.fresh' (Kd.lK (by (with_reducible repeat (first|apply Kd.aK|apply Kd.aQ|apply Kd.aW));exact dN.out)) k_ hk));(case aO=>exact (by (with_reducible repeat (first|apply Kd.aK|apply Kd.aQ|apply Kd.aW));exact jE.out));(case aS=>exact (bP zB));(case aL=>have:=anZ.out;omega);intro alz w19 ho hb hg hat;rw [← an0.out] at ho;obtain ⟨dN,HB,yG⟩:=zA3 (Kd.rY (ok:=(fun _=>True)) (by (with_reducible repeat (first|apply Kd.aK|apply Kd.aQ|apply Kd.aW));exact Kd.dO dN.out (fun _ hk=>⟨trivial,hk⟩)) hg hat) hb ho;clear ho hb hg hat)|((with_reducible refine jP (b := .append) (xs := #[.tmp 51,.tmp 58]) rfl ?_);(try (refine kT (by rfl) ?_;dsimp only));at_builtin;refine Kd.kS (Kd.int .i64) (w0:=w) w.heap.size rfl (.tmp 51) (.tmp 58) 44 2 (.int .i64 0) 8 rfl Tryz.underlying44 wK rfl (by decide) (by omega) u8 ab7 (wrap64 ((wrap64 ((rd l0 oZ)*16384)) - (wrap64 (qL*qQ)))) [.int .i64 (wrap64 ((wrap64 ((rd l0 oZ)*16384)) - (wrap64 (qL*qQ))))] (fun k_=>some k_≠(alz:Value).ownBlock) (fun _=>False) rfl rfl ?aP (fun _ hk=>hk.elim) ?aF ?aO ?aB ?aS ?aL ?_;(case aP=>exact rfl);(case aB=>exact zB);(case aF=>exact (fun k_ hk=>Kd.fresh' (Kd.lK (by (with_reducible repeat (first|apply Kd.aK|apply Kd.aQ|apply Kd.aW));exact yG.out)) k_ hk));(case aO=>exact (by (with_reducible repeat (first|apply Kd.aK|apply Kd.aQ|apply Kd.aW));exact Kd.dO dN.out (fun _ hk=>hk.2)));(case aS=>exact (bP zB));(case aL=>have:=an1.out;omega);intro avd w20 ho hb hg hat;rw [← an2.out] at ho;obtain ⟨yG,HB,an3⟩:=zA3 (Kd.rY (ok:=(fun _=>True)) (by (with_reducible repeat (first|apply Kd.aK|apply Kd.aQ|apply Kd.aW));exact Kd.dO yG.out (fun _ hk=>⟨trivial,hk⟩)) hg hat) hb ho;clear ho hb hg hat));try go_wp2_with (first|(go_at_call 144;(with_reducible refine (dW.calls k3 (wrap64 ((rd l0 oZ)*16384)) qQ qL _ A15.out).mono ?_);rintro e w18 ⟨rfl,hb⟩;obtain ⟨jE,dN,HB⟩:=zA3 (Kd.ji (by (with_reducible repeat (first|apply Kd.aK|apply Kd.aQ|apply Kd.aW));exact jE.out) hb) (Kd.ji (by (with_reducible repeat (first|apply Kd.aK|apply Kd.aQ|apply Kd.aW));exact dN.out) hb) (ak zB hb);(try clear hb))|((with_reducible refine jP (b := .append) (xs := #[.tmp 47,.tmp 49]) rfl ?_);(try (refine kT (by rfl) ?_;dsimp only));at_builtin;refine Kd.kS (Kd.int .i64) (w0:=w) w.heap.size rfl (.tmp 47) (.tmp 49) 44 2 (.int .i64 0) 8 rfl Tryz.underlying44 wK rfl (by decide) (by omega) u7 zU qL [.int .i64 qL] (fun k_=>some k_≠(u8:Value).ownBlock) (fun _=>False) rfl rfl ?aP (fun _ hk=>hk.elim) ?aF ?aO ?aB ?aS ?aL ?_;(case aP=>exact rfl);(case aB=>exact zB);(case aF=>exact (fun k_ hk=>Kd.fresh' (Kd.lK (by (with_reducible repeat (first|apply Kd.aK|apply Kd.aQ|apply Kd.aW));exact dN.out)) k_ hk));(case aO=>exact (by (with_reducible repeat (first|apply Kd.aK|apply Kd.aQ|apply Kd.aW));exact jE.out));(case aS=>exact (bP zB));(case aL=>have:=anZ.out;omega);intro alz w19 ho hb hg hat;rw [← an0.out] at ho;obtain ⟨dN,HB,yG⟩:=zA3 (Kd.rY (ok:=(fun _=>True)) (by (with_reducible repeat (first|apply Kd.aK|apply Kd.aQ|apply Kd.aW));exact Kd.dO dN.out (fun _ hk=>⟨trivial,hk⟩)) hg hat) hb ho;clear ho hb hg hat)|((with_reducible refine jP (b := .append) (xs := #[.tmp 51,.tmp 58]) rfl ?_);(try (refine kT (by rfl) ?_;dsimp only));at_builtin;refine Kd.kS (Kd.int .i64) (w0:=w) w.heap.size rfl (.tmp 51) (.tmp 58) 44 2 (.int .i64 0) 8 rfl Tryz.underlying44 wK rfl (by decide) (by omega) u8 ab7 (wrap64 ((wrap64 ((rd l0 oZ)*16384)) - (wrap64 (qL*qQ)))) [.int .i64 (wrap64 ((wrap64 ((rd l0 oZ)*16384)) - (wrap64 (qL*qQ))))] (fun k_=>some k_≠(alz:Value).ownBlock) (fun _=>False) rfl rfl ?aP (fun _ hk=>hk.elim) ?aF ?aO ?aB ?aS ?aL ?_;(case aP=>exact rfl);(case aB=>exact zB);(case aF=>exact (fun k_ hk=>Kd.fresh' (Kd.lK (by (with_reducible repeat (first|apply Kd.aK|apply Kd.aQ|apply Kd.aW));exact yG.out)) k_ hk));(case aO=>exact (by (with_reducible repeat (first|apply Kd.aK|apply Kd.aQ|apply Kd.aW));exact Kd.dO dN.out (fun _ hk=>hk.2)));(case aS=>exact (bP zB));(case aL=>have:=an1.out;omega);intro avd w20 ho hb hg hat;rw [← an2.out] at ho;obtain ⟨yG,HB,an3⟩:=zA3 (Kd.rY (ok:=(fun _=>True)) (by (with_reducible repeat (first|apply Kd.aK|apply Kd.aQ|apply Kd.aW));exact Kd.dO yG.out (fun _ hk=>⟨trivial,hk⟩)) hg hat) hb ho;clear ho hb hg hat)))
               go_roundg k3
               case measure=>have:=HJ1.out;have:=HK2.out;have:=HK3.out;omega
               case rel=>exact ⟨(aq3),(avc),(wrap64 (agI - qL)),(wrap64 (oZ+1)),zT,zT,H',⟨by have:=HJ1.out;have:=HK2.out;have:=HK3.out;omega⟩,⟨by (with_reducible repeat (first|apply Kd.aK|apply Kd.aQ|apply Kd.aW));exact Kd.dO yG.out (fun _ hk=>hk.2)⟩,⟨by (with_reducible repeat (first|apply Kd.aK|apply Kd.aQ|apply Kd.aW));exact an3.out⟩,⟨zB⟩⟩
              ·rw [if_neg c17] at H
               exact absurd H (by simp)
             ·rw [if_neg c16] at H
              exact absurd H (by simp)
            ·rw [if_neg c14] at H
             exact absurd H (by simp)
           ·rw [if_neg c13] at H
            exact absurd H (by simp)
          ·rw [if_neg c12] at H
           have aaU:=decide_eq_false c12
           clear c12
           have H':=aj.mk H
           clear H
           go_wp2
           repeat (go_quiet (fail);try go_wp2)
           try simp only [Act.put,List.setIfInBounds_toArray,List.set_cons_succ,List.set_cons_zero]
           go_loopg [9] k3 (fun kq v9 w'=>∃ (lZ:List Int) (lQ:List Int) (ae0:Int),v9 = .int .i64 ae0∧aj (aG.l2 kq lZ lQ ae0=some (r1,r2))∧aj (kq≤k3)∧aj (Kd.R (Kd.int .i64) 2 w' w.heap.size (fun k_=>some k_≠(u8:Value).ownBlock) u7 lZ)∧aj (Kd.R (Kd.int .i64) 2 w' w.heap.size (fun k_=>some k_≠(u7:Value).ownBlock) u8 lQ)∧aj (Below w.heap.size w w'))
           case atStart=>exact ⟨(zU),(ab7),(agI),zT,H',⟨Nat.le_refl _⟩,⟨by (with_reducible repeat (first|apply Kd.aK|apply Kd.aQ|apply Kd.aW));exact jE.out⟩,⟨by (with_reducible repeat (first|apply Kd.aK|apply Kd.aQ|apply Kd.aW));exact dN.out⟩,⟨zB⟩⟩
           case round =>
            clear H'
            try clear hx3
            obtain ⟨lZ,lQ,ae0,rfl,HA,HK4,jE,dN,HB⟩:=hrel
            cases gk with
            | zero=>exact absurd HA.out (by simp [aG.l2])
            | succ k4 =>
             have H:=HA.out
             clear HA
             simp only [aG.l2] at H
             by_cases c21:ae0 > 0
             ·rw [if_pos c21] at H
              have adV:=decide_eq_true c21
              clear c21
              have H':=aj.mk H
              clear H
              obtain ⟨agJ,xW,aq6⟩:=Kd.fZ dN.out
              subst aq6
              go_wp2
              repeat (go_quiet (fail);try go_wp2)
              try simp only [Act.put,List.setIfInBounds_toArray,List.set_cons_succ,List.set_cons_zero]
              go_loopg [13,68] k4 (fun kq v13 v68 w'=>∃ (fO:Int) (uF:Int),v13 = .int .i64 fO∧v68 = .int .i64 uF∧aj (aG.l3 kq lZ lQ ae0 fO (lQ.length:Int) uF=some (r1,r2))∧aj (kq≤k4)∧aj (Kd.R (Kd.int .i64) 2 w' w.heap.size (fun k_=>some k_≠((.slice agJ lQ.length xW):Value).ownBlock) u7 lZ)∧aj (Kd.R (Kd.int .i64) 2 w' w.heap.size (fun k_=>some k_≠(u7:Value).ownBlock) (.slice agJ lQ.length xW) lQ)∧aj (Below w.heap.size w w'))
              case atStart=>exact ⟨(0),(0),zT,zT,H',⟨Nat.le_refl _⟩,⟨by (with_reducible repeat (first|apply Kd.aK|apply Kd.aQ|apply Kd.aW));exact jE.out⟩,⟨by (with_reducible repeat (first|apply Kd.aK|apply Kd.aQ|apply Kd.aW));exact dN.out⟩,⟨zB⟩⟩
              case round =>
               clear H'
               try clear hx3
               obtain ⟨fO,uF,rfl,rfl,HA,HK5,jE,dN,HB⟩:=hrel
               cases gk with
               | zero=>exact absurd HA.out (by simp [aG.l3])
               | succ k5 =>
                have H:=HA.out
                clear HA
                simp only [aG.l3] at H
                by_cases c23:uF < (lQ.length:Int)
                ·rw [if_pos c23] at H
                 have an4:=decide_eq_true c23
                 clear c23
                 by_cases c24:0≤uF
                 ·rw [if_pos c24] at H
                  have awR:=decide_eq_true c24
                  clear c24
                  by_cases c25:uF < (lQ.length:Int)
                  ·rw [if_pos c25] at H
                   have aCs:=decide_eq_true c25
                   clear c25
                   by_cases c26:0≤fO
                   ·rw [if_pos c26] at H
                    have afP:=decide_eq_true c26
                    clear c26
                    by_cases c27:fO < (lQ.length:Int)
                    ·rw [if_pos c27] at H
                     have aCt:=decide_eq_true c27
                     clear c27
                     by_cases c28:(rd lQ uF) > (rd lQ fO)
                     ·rw [if_pos c28] at H
                      have an5:=decide_eq_true c28
                      clear c28
                      have H':=aj.mk H
                      clear H
                      have agK:0≤(uF:Int):=of_decide_eq_true (by first|(with_reducible assumption)|assumption)
                      have agL:uF < (lQ.length:Int):=of_decide_eq_true (by first|(with_reducible assumption)|assumption)
                      obtain ⟨an6,aq7,atS⟩:=Kd.iI (Kd.dB dN.out).2.2 uF agK agL
                      cases aq7
                      replace agK:=eq_true agK
                      replace agL:=eq_true agL
                      have agM:0≤(fO:Int):=of_decide_eq_true (by first|(with_reducible assumption)|assumption)
                      have agN:fO < (lQ.length:Int):=of_decide_eq_true (by first|(with_reducible assumption)|assumption)
                      obtain ⟨an7,aq8,atT⟩:=Kd.iI (Kd.dB dN.out).2.2 fO agM agN
                      obtain rfl:an6=an7:=(by injection aq8)
                      replace agM:=eq_true agM
                      replace agN:=eq_true agN
                      go_wp2
                      repeat (go_quiet (fail);try go_wp2)
                      go_roundg k5
                      case measure=>have:=HJ1.out;have:=HK2.out;have:=HK3.out;have:=HK4.out;have:=HK5.out;omega
                      case rel=>exact ⟨(uF),(wrap64 (uF+1)),zT,zT,H',⟨by have:=HJ1.out;have:=HK2.out;have:=HK3.out;have:=HK4.out;have:=HK5.out;omega⟩,⟨by (with_reducible repeat (first|apply Kd.aK|apply Kd.aQ|apply Kd.aW));exact jE.out⟩,⟨by (with_reducible repeat (first|apply Kd.aK|apply Kd.aQ|apply Kd.aW));exact dN.out⟩,⟨zB⟩⟩
                     ·rw [if_neg c28] at H
                      have an5:=decide_eq_false c28
                      clear c28
                      have H':=aj.mk H
                      clear H
                      have agK:0≤(uF:Int):=of_decide_eq_true (by first|(with_reducible assumption)|assumption)
                      have agL:uF < (lQ.length:Int):=of_decide_eq_true (by first|(with_reducible assumption)|assumption)
                      obtain ⟨an6,aq7,atS⟩:=Kd.iI (Kd.dB dN.out).2.2 uF agK agL
                      cases aq7
                      replace agK:=eq_true agK
                      replace agL:=eq_true agL
                      have agM:0≤(fO:Int):=of_decide_eq_true (by first|(with_reducible assumption)|assumption)
                      have agN:fO < (lQ.length:Int):=of_decide_eq_true (by first|(with_reducible assumption)|assumption)
                      obtain ⟨an7,aq8,atT⟩:=Kd.iI (Kd.dB dN.out).2.2 fO agM agN
                      obtain rfl:an6=an7:=(by injection aq8)
                      replace agM:=eq_true agM
                      replace agN:=eq_true agN
                      go_wp2
                      repeat (go_quiet (fail);try go_wp2)
                      go_roundg k5
                      case measure=>have:=HJ1.out;have:=HK2.out;have:=HK3.out;have:=HK4.out;have:=HK5.out;omega
                      case rel=>exact ⟨(fO),(wrap64 (uF+1)),zT,zT,H',⟨by have:=HJ1.out;have:=HK2.out;have:=HK3.out;have:=HK4.out;have:=HK5.out;omega⟩,⟨by (with_reducible repeat (first|apply Kd.aK|apply Kd.aQ|apply Kd.aW));exact jE.out⟩,⟨by (with_reducible repeat (first|apply Kd.aK|apply Kd.aQ|apply Kd.aW));exact dN.out⟩,⟨zB⟩⟩
                    ·rw [if_neg c27] at H
                     exact absurd H (by simp)
                   ·rw [if_neg c26] at H
                    exact absurd H (by simp)
                  ·rw [if_neg c25] at H
                   exact absurd H (by simp)
                 ·rw [if_neg c24] at H
                  exact absurd H (by simp)
                ·rw [if_neg c23] at H
                 have an4:=decide_eq_false c23
                 clear c23
                 by_cases c29:0≤fO
                 ·rw [if_pos c29] at H
                  have an8:=decide_eq_true c29
                  clear c29
                  by_cases c30:fO < (lZ.length:Int)
                  ·rw [if_pos c30] at H
                   have asT:=decide_eq_true c30
                   clear c30
                   obtain ⟨aiI,ahI⟩:∃ y_:List Int,y_=(lZ.set (fO:Int).toNat (wrap64 ((rd lZ fO)+1))):=⟨_,rfl⟩
                   replace H:(if fO < (lQ.length:Int) then (aG.l2 k5 aiI (lQ.set (fO:Int).toNat (-1)) (wrap64 (ae0 - 1))) else (none))=some (r1,r2):=by first|(rw [ahI];with_reducible exact H)|(have H2_:=(Option.bind_some _ _).symm.trans H;rw [ahI];with_reducible exact H2_)|(have H2_:=(Option.bind_some _ _).symm.trans H;with_reducible exact H2_)|with_reducible exact H|(rw [ahI];exact H)|exact H
                   have an9:=aj.mk ahI
                   clear ahI
                   by_cases c32:fO < (lQ.length:Int)
                   ·rw [if_pos c32] at H
                    have aCu:=decide_eq_true c32
                    clear c32
                    obtain ⟨alA,ahJ⟩:∃ y_:List Int,y_=(lQ.set (fO:Int).toNat (-1)):=⟨_,rfl⟩
                    replace H:(aG.l2 k5 aiI alA (wrap64 (ae0 - 1)))=some (r1,r2):=by first|(rw [ahJ];with_reducible exact H)|(have H2_:=(Option.bind_some _ _).symm.trans H;rw [ahJ];with_reducible exact H2_)|(have H2_:=(Option.bind_some _ _).symm.trans H;with_reducible exact H2_)|with_reducible exact H|(rw [ahJ];exact H)|exact H
                    have aoa:=aj.mk ahJ
                    clear ahJ
                    have H':=aj.mk H
                    clear H
                    obtain ⟨ayw,vK,aqc⟩:=Kd.fZ jE.out
                    subst aqc
                    have aq9:0≤(fO:Int):=of_decide_eq_true (by first|(with_reducible assumption)|assumption)
                    have ara:fO < (lZ.length:Int):=of_decide_eq_true (by first|(with_reducible assumption)|assumption)
                    obtain ⟨aCv,ayX,atU⟩:=Kd.iI (Kd.dB jE.out).2.2 fO aq9 ara
                    cases ayX
                    replace aq9:=eq_true aq9
                    replace ara:=eq_true ara
                    have p31:0≤(fO:Int):=of_decide_eq_true (by first|(with_reducible assumption)|assumption)
                    have q31:(fO:Int) < ((lZ.length:Int):Int):=of_decide_eq_true (by first|(with_reducible assumption)|assumption)
                    obtain ⟨qU,aD8,ave,avf,ayY,aD9,avg⟩:=Kd.adg jE.out (by omega)
                    (first|cases ave|(injection ave with ea_ en_ ec_;(first|subst ea_|(injection ea_ with ea_;subst ea_));subst ec_;clear en_))
                    have arb:=aj.mk avf
                    have aEa:=aj.mk avg
                    clear avf ayY avg
                    (first|simp only [add_plain] at atU|skip)
                    obtain ⟨aAR,aAS⟩:=Kd.vZ 0 jE.out (fO:Int) p31 q31
                    replace p31:=eq_true p31
                    replace q31:=eq_true q31
                    have abr:=Kd.yt jE.out (fO:Int) (wrap64 ((rd lZ fO)+1))
                    go_wp2_with (first|((with_reducible refine xG (t:=2) (p:=87) rfl ?_);(try (rw [oP wr];generalize hq_:World.drewN wr _=wr;obtain ⟨jE,dN,HB⟩:=zA3 (Kd.ab8 hq_ jE.out) (Kd.ab8 hq_ dN.out) (ab9 hq_ HB.out);(try (have abr:=Kd.yt jE.out (fO:Int) (wrap64 ((rd lZ fO)+1))))));refine wo (t:=2) (p:=87) (v := ?apw) (w1:=(wr.setCell ⟨qU,(fO:Int).toNat,none⟩ (.int .i64 (wrap64 ((rd lZ fO)+1))))) ?hg ?ho ?hn ?hr ?_;(case ho=>rfl);(case hg=>rfl);(case hn=>rfl);(case hr=>first|(go_simp;done)|(go_simp;rfl));intro w36 hw;have hg:wr.grownBy w36 (some qU):=(by rw [hw];exact abr.2);have hp_:Kd.R (Kd.int .i64) 2 w36 w.heap.size (fun k_=>some k_≠(.slice agJ lQ.length xW:Value).ownBlock) (.slice (some ⟨qU,0,none⟩) lZ.length vK) aiI:=(by rw [hw,an9.out];exact abr.1);clear abr;obtain ⟨jE,dN,HB⟩:=zA3 hp_ (Kd.rY (v:=(.slice (some ⟨qU,0,none⟩) lZ.length vK)) (v1:=(.slice (some ⟨qU,0,none⟩) lZ.length vK)) (ok:=(fun _=>True)) (by (with_reducible repeat (first|apply Kd.aK|apply Kd.aQ|apply Kd.aW));exact Kd.dO dN.out (fun _ hk=>⟨trivial,hk⟩)) hg (.inl rfl)) ((by rw [hw];exact sD (HB.out) arb.out:Below w.heap.size w w36));clear hg hw hp_;have p33:0≤(fO:Int):=of_decide_eq_true (by first|(with_reducible assumption)|assumption);have q33:(fO:Int) < ((lQ.length:Int):Int):=of_decide_eq_true (by first|(with_reducible assumption)|assumption);obtain ⟨xw,aqb,acX,ae1,alB,avh,ae2⟩:=Kd.adg dN.out (by omega);(first|cases acX|(injection acX with ea_ en_ ec_;(first|subst ea_|(injection ea_ with ea_;subst ea_));subst ec_;clear en_));have alC:=aj.mk ae1;have avi:=aj.mk ae2;clear ae1 alB ae2;obtain ⟨apx,apy⟩:=Kd.vZ 0 dN.out (fO:Int) p33 q33;replace p33:=eq_true p33;replace q33:=eq_true q33;have n_:=aj.mk (Kd.dO (ok':=(fun k_=>some k_≠(.slice (some ⟨qU,0,none⟩) lZ.length vK:Value).ownBlock)) dN.out (fun k_ hk=>hk.2));clear dN;have dN:=n_;clear n_;obtain ⟨ahK,ahL⟩:=Kd.vZ 0 dN.out (fO:Int) (of_decide_eq_true (by first|(with_reducible assumption)|assumption)) (of_decide_eq_true (by first|(with_reducible assumption)|assumption));have aae:=Kd.yt dN.out (fO:Int) (-1))|((with_reducible refine xG (t:=2) (p:=90) rfl ?_);(try (rw [oP w36];generalize hq_:World.drewN w36 _=w36;obtain ⟨jE,dN,HB⟩:=zA3 (Kd.ab8 hq_ jE.out) (Kd.ab8 hq_ dN.out) (ab9 hq_ HB.out);(try (have n_:=aj.mk (Kd.dO (ok':=(fun k_=>some k_≠(.slice (some ⟨qU,0,none⟩) lZ.length vK:Value).ownBlock)) dN.out (fun k_ hk=>hk.2));clear dN;have dN:=n_;clear n_));(try (obtain ⟨ahK,ahL⟩:=Kd.vZ 0 dN.out (fO:Int) (of_decide_eq_true (by first|(with_reducible assumption)|assumption)) (of_decide_eq_true (by first|(with_reducible assumption)|assumption))));(try (have aae:=Kd.yt dN.out (fO:Int) (-1)))));refine wo (t:=2) (p:=90) (v := ?apz) (w1:=(w36.setCell ⟨xw,(fO:Int).toNat,none⟩ (.int .i64 (-1)))) ?hg ?ho ?hn ?hr ?_;(case ho=>rfl);(case hg=>rfl);(case hn=>rfl);(case hr=>first|(go_simp;done)|(go_simp;rfl));intro w38 hw;have hg:w36.grownBy w38 (some xw):=(by rw [hw];exact aae.2);have hp_:Kd.R (Kd.int .i64) 2 w38 w.heap.size (fun k_=>some k_≠(.slice (some ⟨qU,0,none⟩) lZ.length vK:Value).ownBlock) (.slice (some ⟨xw,0,none⟩) lQ.length xW) alA:=(by rw [hw,aoa.out];exact aae.1);clear aae;obtain ⟨jE,dN,HB⟩:=zA3 (Kd.rY (v:=(.slice (some ⟨xw,0,none⟩) lQ.length xW)) (v1:=(.slice (some ⟨xw,0,none⟩) lQ.length xW)) (ok:=(fun _=>True)) (by (with_reducible repeat (first|apply Kd.aK|apply Kd.aQ|apply Kd.aW));exact Kd.dO jE.out (fun _ hk=>⟨trivial,hk⟩)) hg (.inl rfl)) hp_ ((by rw [hw];exact sD (HB.out) alC.out:Below w.heap.size w w38));clear hg hw hp_))
                    repeat (go_quiet (first|((with_reducible refine xG (t:=2) (p:=87) rfl ?_);(try (rw [oP wr];generalize hq_:World.drewN wr _=wr;obtain ⟨jE,dN,HB⟩:=zA3 (Kd.ab8 hq_ jE.out) (Kd.ab8 hq_ dN.out) (ab9 hq_ HB.out);(try (have abr:=Kd.yt jE.out (fO:Int) (wrap64 ((rd lZ fO)+1))))));refine wo (t:=2) (p:=87) (v := ?apw) (w1:=(wr.setCell ⟨qU,(fO:Int).toNat,none⟩ (.int .i64 (wrap64 ((rd lZ fO)+1))))) ?hg ?ho ?hn ?hr ?_;(case ho=>rfl);(case hg=>rfl);(case hn=>rfl);(case hr=>first|(go_simp;done)|(go_simp;rfl));intro w36 hw;have hg:wr.grownBy w36 (some qU):=(by rw [hw];exact abr.2);have hp_:Kd.R (Kd.int .i64) 2 w36 w.heap.size (fun k_=>some k_≠(.slice agJ lQ.length xW:Value).ownBlock) (.slice (some ⟨qU,0,none⟩) lZ.length vK) aiI:=(by rw [hw,an9.out];exact abr.1);clear abr;obtain ⟨jE,dN,HB⟩:=zA3 hp_ (Kd.rY (v:=(.slice (some ⟨qU,0,none⟩) lZ.length vK)) (v1:=(.slice (some ⟨qU,0,none⟩) lZ.length vK)) (ok:=(fun _=>True)) (by (with_reducible repeat (first|apply Kd.aK|apply Kd.aQ|apply Kd.aW));exact Kd.dO dN.out (fun _ hk=>⟨trivial,hk⟩)) hg (.inl rfl)) ((by rw [hw];exact sD (HB.out) arb.out:Below w.heap.size w w36));clear hg hw hp_;have p33:0≤(fO:Int):=of_decide_eq_true (by first|(with_reducible assumption)|assumption);have q33:(fO:Int) < ((lQ.length:Int):Int):=of_decide_eq_true (by first|(with_reducible assumption)|assumption);obtain ⟨xw,aqb,acX,ae1,alB,avh,ae2⟩:=Kd.adg dN.out (by omega);(first|cases acX|(injection acX with ea_ en_ ec_;(first|subst ea_|(injection ea_ with ea_;subst ea_));subst ec_;clear en_));have alC:=aj.mk ae1;have avi:=aj.mk ae2;clear ae1 alB ae2;obtain ⟨apx,apy⟩:=Kd.vZ 0 dN.out (fO:Int) p33 q33;replace p33:=eq_true p33;replace q33:=eq_true q33;have n_:=aj.mk (Kd.dO (ok':=(fun k_=>some k_≠(.slice (some ⟨qU,0,none⟩) lZ.length vK:Value).ownBlock)) dN.out (fun k_ hk=>hk.2));clear dN;have dN:=n_;clear n_;obtain ⟨ahK,ahL⟩:=Kd.vZ 0 dN.out (fO:Int) (of_decide_eq_true (by first|(with_reducible assumption)|assumption)) (of_decide_eq_true (by first|(with_reducible assumption)|assumption));have aae:=Kd.yt dN.out (fO:Int) (-1))|((with_reducible refine xG (t:=2) (p:=90) rfl ?_);(try (rw [oP w36];generalize hq_:World.drewN w36 _=w36;obtain ⟨jE,dN,HB⟩:=zA3 (Kd.ab8 hq_ jE.out) (Kd.ab8 hq_ dN.out) (ab9 hq_ HB.out);(try (have n_:=aj.mk (Kd.dO (ok':=(fun k_=>some k_≠(.slice (some ⟨qU,0,none⟩) lZ.length vK:Value).ownBlock)) dN.out (fun k_ hk=>hk.2));clear dN;have dN:=n_;clear n_));(try (obtain ⟨ahK,ahL⟩:=Kd.vZ 0 dN.out (fO:Int) (of_decide_eq_true (by first|(with_reducible assumption)|assumption)) (of_decide_eq_true (by first|(with_reducible assumption)|assumption))));(try (have aae:=Kd.yt dN.out (fO:Int) (-1)))));refine wo (t:=2) (p:=90) (v := ?apz) (w1:=(w36.setCell ⟨xw,(fO:Int).toNat,none⟩ (.int .i64 (-1)))) ?hg ?ho ?hn ?hr ?_;(case ho=>rfl);(case hg=>rfl);(case hn=>rfl);(case hr=>first|(go_simp;done)|(go_simp;rfl));intro w38 hw;have hg:w36.grownBy w38 (some xw):=(by rw [hw];exact aae.2);have hp_:Kd.R (Kd.int .i64) 2 w38 w.heap.size (fun k_=>some k_≠(.slice (some ⟨qU,0,none⟩) lZ.length vK:Value).ownBlock) (.slice (some ⟨xw,0,none⟩) lQ.length xW) alA:=(by rw [hw,aoa.out];exact aae.1);clear aae;obtain ⟨jE,dN,HB⟩:=zA3 (Kd.rY (v:=(.slice (some ⟨xw,0,none⟩) lQ.length xW)) (v1:=(.slice (some ⟨xw,0,none⟩) lQ.length xW)) (ok:=(fun _=>True)) (by (with_reducible repeat (first|apply Kd.aK|apply Kd.aQ|apply Kd.aW));exact Kd.dO jE.out (fun _ hk=>⟨trivial,hk⟩)) hg (.inl rfl)) hp_ ((by rw [hw];exact sD (HB.out) alC.out:Below w.heap.size w w38));clear hg hw hp_));try go_wp2_with (first|((with_reducible refine xG (t:=2) (p:=87) rfl ?_);(try (rw [oP wr];generalize hq_:World.drewN wr _=wr;obtain ⟨jE,dN,HB⟩:=zA3 (Kd.ab8 hq_ jE.out) (Kd.ab8 hq_ dN.out) (ab9 hq_ HB.out);(try (have abr:=Kd.yt jE.out (fO:Int) (wrap64 ((rd lZ fO)+1))))));refine wo (t:=2) (p:=87) (v := ?apw) (w1:=(wr.setCell ⟨qU,(fO:Int).toNat,none⟩ (.int .i64 (wrap64 ((rd lZ fO)+1))))) ?hg ?ho ?hn ?hr ?_;(case ho=>rfl);(case hg=>rfl);(case hn=>rfl);(case hr=>first|(go_simp;done)|(go_simp;rfl));intro w36 hw;have hg:wr.grownBy w36 (some qU):=(by rw [hw];exact abr.2);have hp_:Kd.R (Kd.int .i64) 2 w36 w.heap.size (fun k_=>some k_≠(.slice agJ lQ.length xW:Value).ownBlock) (.slice (some ⟨qU,0,none⟩) lZ.length vK) aiI:=(by rw [hw,an9.out];exact abr.1);clear abr;obtain ⟨jE,dN,HB⟩:=zA3 hp_ (Kd.rY (v:=(.slice (some ⟨qU,0,none⟩) lZ.length vK)) (v1:=(.slice (some ⟨qU,0,none⟩) lZ.length vK)) (ok:=(fun _=>True)) (by (with_reducible repeat (first|apply Kd.aK|apply Kd.aQ|apply Kd.aW));exact Kd.dO dN.out (fun _ hk=>⟨trivial,hk⟩)) hg (.inl rfl)) ((by rw [hw];exact sD (HB.out) arb.out:Below w.heap.size w w36));clear hg hw hp_;have p33:0≤(fO:Int):=of_decide_eq_true (by first|(with_reducible assumption)|assumption);have q33:(fO:Int) < ((lQ.length:Int):Int):=of_decide_eq_true (by first|(with_reducible assumption)|assumption);obtain ⟨xw,aqb,acX,ae1,alB,avh,ae2⟩:=Kd.adg dN.out (by omega);(first|cases acX|(injection acX with ea_ en_ ec_;(first|subst ea_|(injection ea_ with ea_;subst ea_));subst ec_;clear en_));have alC:=aj.mk ae1;have avi:=aj.mk ae2;clear ae1 alB ae2;obtain ⟨apx,apy⟩:=Kd.vZ 0 dN.out (fO:Int) p33 q33;replace p33:=eq_true p33;replace q33:=eq_true q33;have n_:=aj.mk (Kd.dO (ok':=(fun k_=>some k_≠(.slice (some ⟨qU,0,none⟩) lZ.length vK:Value).ownBlock)) dN.out (fun k_ hk=>hk.2));clear dN;have dN:=n_;clear n_;obtain ⟨ahK,ahL⟩:=Kd.vZ 0 dN.out (fO:Int) (of_decide_eq_true (by first|(with_reducible assumption)|assumption)) (of_decide_eq_true (by first|(with_reducible assumption)|assumption));have aae:=Kd.yt dN.out (fO:Int) (-1))|((with_reducible refine xG (t:=2) (p:=90) rfl ?_);(try (rw [oP w36];generalize hq_:World.drewN w36 _=w36;obtain ⟨jE,dN,HB⟩:=zA3 (Kd.ab8 hq_ jE.out) (Kd.ab8 hq_ dN.out) (ab9 hq_ HB.out);(try (have n_:=aj.mk (Kd.dO (ok':=(fun k_=>some k_≠(.slice (some ⟨qU,0,none⟩) lZ.length vK:Value).ownBlock)) dN.out (fun k_ hk=>hk.2));clear dN;have dN:=n_;clear n_));(try (obtain ⟨ahK,ahL⟩:=Kd.vZ 0 dN.out (fO:Int) (of_decide_eq_true (by first|(with_reducible assumption)|assumption)) (of_decide_eq_true (by first|(with_reducible assumption)|assumption))));(try (have aae:=Kd.yt dN.out (fO:Int) (-1)))));refine wo (t:=2) (p:=90) (v := ?apz) (w1:=(w36.setCell ⟨xw,(fO:Int).toNat,none⟩ (.int .i64 (-1)))) ?hg ?ho ?hn ?hr ?_;(case ho=>rfl);(case hg=>rfl);(case hn=>rfl);(case hr=>first|(go_simp;done)|(go_simp;rfl));intro w38 hw;have hg:w36.grownBy w38 (some xw):=(by rw [hw];exact aae.2);have hp_:Kd.R (Kd.int .i64) 2 w38 w.heap.size (fun k_=>some k_≠(.slice (some ⟨qU,0,none⟩) lZ.length vK:Value).ownBlock) (.slice (some ⟨xw,0,none⟩) lQ.length xW) alA:=(by rw [hw,aoa.out];exact aae.1);clear aae;obtain ⟨jE,dN,HB⟩:=zA3 (Kd.rY (v:=(.slice (some ⟨xw,0,none⟩) lQ.length xW)) (v1:=(.slice (some ⟨xw,0,none⟩) lQ.length xW)) (ok:=(fun _=>True)) (by (with_reducible repeat (first|apply Kd.aK|apply Kd.aQ|apply Kd.aW));exact Kd.dO jE.out (fun _ hk=>⟨trivial,hk⟩)) hg (.inl rfl)) hp_ ((by rw [hw];exact sD (HB.out) alC.out:Below w.heap.size w w38));clear hg hw hp_)))
                    go_roundg k5
                    case measure=>have:=HJ1.out;have:=HK2.out;have:=HK3.out;have:=HK4.out;have:=HK5.out;omega
                    case rel=>exact ⟨(aiI),(alA),(wrap64 (ae0 - 1)),zT,H',⟨by have:=HJ1.out;have:=HK2.out;have:=HK3.out;have:=HK4.out;have:=HK5.out;omega⟩,⟨by (with_reducible repeat (first|apply Kd.aK|apply Kd.aQ|apply Kd.aW));exact Kd.dO jE.out (fun _ hk=>hk.2)⟩,⟨by (with_reducible repeat (first|apply Kd.aK|apply Kd.aQ|apply Kd.aW));exact dN.out⟩,⟨zB⟩⟩
                   ·rw [if_neg c32] at H
                    exact absurd H (by simp)
                  ·rw [if_neg c30] at H
                   exact absurd H (by simp)
                 ·rw [if_neg c29] at H
                  exact absurd H (by simp)
             ·rw [if_neg c21] at H
              have adV:=decide_eq_false c21
              clear c21
              simp only [Option.some.injEq,Prod.mk.injEq] at H
              obtain ⟨rfl,rfl⟩:=H
              go_wp2
              repeat (go_quiet (fail);try go_wp2)
              go_ret2
              exact ⟨_,zS,by (with_reducible repeat (first|apply Kd.aK|apply Kd.aQ|apply Kd.aW));exact Kd.dO jE.out (fun _ hk=>trivial),zB⟩
end Go.Proofs.YtpondkggmcmpfaaGreatDoor.QA
namespace Go.Proofs.YtpondkggmcmpfaaGreatDoor.QA
open Go.Proofs.YtpondkggmcmpfaaGreatDoor.T
open Go.RowKit Go.Proofs.YtpondkggmcmpfaaGreatDoorW.PrintWords Go.Proofs.YtpondkggmcmpfaaGreatDoorW.PrintLast Go.Proofs.YtpondkggmcmpfaaGreatDoorW.PrintMore
attribute [local go_sem] dV dP dQ fC fD
set_option linter.unusedVariables false
set_option linter.unusedSimpArgs false
mutual
def bW.j0:Nat→Int→Int→Int→Bool→Option ((List (lV)) × Int)
 | 0,_,_,_,_=>none
 | k+1,x0,x1,x2,x29=>if x29=true then (some (([]:List (lV)),6)) else (bW.l0 k x0 x1 x2 ([]:List (lV)) x2 0)
def bW.l0:Nat→Int→Int→Int→List (lV)→Int→Int→Option ((List (lV)) × Int)
 | 0,_,_,_,_,_,_=>none
 | k+1,x0,x1,x2,x8,x30,x31=>if x31 < x30 then ((bV.f k x0 x1 x2 x31).bind fun asV=>((aG.f k asV.2).bind fun aob=>(if aob.2=0 then (if x8.length < 4398046511104 then (bW.l0 k x0 x1 x2 (x8 ++ [(⟨asV.1,aob.1⟩:lV)]) x30 (wrap64 (x31+1))) else (none)) else (some (([]:List (lV)),aob.2))))) else (some (x8,0))
end
def bW.f (k:Nat) (a0 a1 a2:Int):Option ((List (lV)) × Int):=if a0 < 0 then (bW.j0 k a0 a1 a2 true) else (if a0 > 2 then (bW.j0 k a0 a1 a2 true) else ((iO.f a1).bind fun ard=>(if ard=true then ((iO.f a2).bind fun aoc=>(bW.j0 k a0 a1 a2 (!aoc))) else (bW.j0 k a0 a1 a2 true))))
set_option maxHeartbeats 8000000 in
set_option maxRecDepth 100000 in
theorem bW.calls (k:Nat) (a0 a1 a2:Int) (r1:List (lV)) (r2:Int) (w:World) (h:bW.f k a0 a1 a2=some (r1,r2)) :
  Calls Tryz.prog 93 #[.int .i64 a0,.int .i64 a1,.int .i64 a2] w fun e w'=>∃ v0_:Value,e = .returned (.tuple #[v0_,.int .i64 r2])∧Kd.S aaq 138 w' w.heap.size (fun _=>True) v0_ r1∧Below w.heap.size w w':=by
 have aCw:=Tryz.underlying138
 have HB:=aj.mk (Below.refl w.heap.size w)
 have H:=h
 clear h
 unfold bW.f at H
 have HC4:=aj.mk H
 clear H
 go_enter Tryz.func93,Tryz.ntmps93
 go_upto_region 1 with (fail)
 go_cut [29] (fun v29 wc=>∃ (kq:Nat) (akm:Bool),v29 = .bool akm∧aj (bW.j0 kq a0 a1 a2 akm=some (r1,r2))∧aj (kq≤k)∧aj (Below w.heap.size w wc))
 case first =>
  have H:=HC4.out
  clear HC4
  by_cases c5:a0 < 0
  ·rw [if_pos c5] at H
   have gQ:=decide_eq_true c5
   clear c5
   (first|rw [gQ]|(simp only [bY,dw];rw [gQ])|skip)
   have H':=aj.mk H
   clear H
   go_wp2
   go_meet
   case rel=>exact ⟨_,(true),zT,H',⟨by first|omega|exact Nat.le_refl _⟩,⟨zB⟩⟩
  ·rw [if_neg c5] at H
   have gQ:=decide_eq_false c5
   clear c5
   (first|rw [gQ]|(simp only [bY,dw];rw [gQ])|skip)
   by_cases c6:a0 > 2
   ·rw [if_pos c6] at H
    have iw:=decide_eq_true c6
    clear c6
    have H':=aj.mk H
    clear H
    go_wp2
    go_meet
    case rel=>exact ⟨_,(true),zT,H',⟨by first|omega|exact Nat.le_refl _⟩,⟨zB⟩⟩
   ·rw [if_neg c6] at H
    have iw:=decide_eq_false c6
    clear c6
    replace H:=zO H
    obtain ⟨ard,A7,H⟩:=H
    try dsimp only at H
    by_cases c8:ard=true
    ·subst c8
     rw [if_pos rfl] at H;try dsimp only at H
     replace H:=zO H
     obtain ⟨aoc,A9,H⟩:=H
     try dsimp only at H
     have H':=aj.mk H
     clear H
     go_wp2_with (first|(go_at_call 113;(with_reducible refine (iO.calls a1 true _ A7.out).mono ?_);rintro e w' ⟨rfl,⟨nd,rfl⟩⟩)|(go_at_call 113;(with_reducible refine (iO.calls a2 aoc _ A9.out).mono ?_);rintro e w' ⟨rfl,⟨nd,rfl⟩⟩))
     go_meet
     case rel=>exact ⟨_,(!aoc),zT,H',⟨by first|omega|exact Nat.le_refl _⟩,⟨zB⟩⟩
    ·replace c8:=Bool.eq_false_iff.mpr c8
     subst c8
     rw [if_neg (show ¬ (false=true) by decide)] at H;try dsimp only at H
     have H':=aj.mk H
     clear H
     go_wp2_with (first|(go_at_call 113;(with_reducible refine (iO.calls a1 false _ A7.out).mono ?_);rintro e w' ⟨rfl,⟨nd,rfl⟩⟩))
     go_meet
     case rel=>exact ⟨_,(true),zT,H',⟨by first|omega|exact Nat.le_refl _⟩,⟨zB⟩⟩
 case rest =>
  clear HC4
  obtain ⟨kq,akm,rfl,HA,HJ3,HB⟩:=hcut
  cases kq with
  | zero=>exact absurd HA.out (by simp [bW.j0])
  | succ kj3 =>
   have H:=HA.out
   clear HA
   simp only [bW.j0] at H
   by_cases c10:akm=true
   ·subst c10
    rw [if_pos rfl] at H;try dsimp only at H
    simp only [Option.some.injEq,Prod.mk.injEq] at H
    obtain ⟨rfl,rfl⟩:=H
    go_wp2
    go_ret2
    exact ⟨_,zS,by first|exact Kd.pJ _ _ _ _ _|exact Kd.qj _ _ _ _ _|exact Kd.oH _ _ _ _ _|exact Kd.qm _ _ _ _ _|exact Kd.jW _ _ _ _ _,zB⟩
   ·replace c10:=Bool.eq_false_iff.mpr c10
    subst c10
    rw [if_neg (show ¬ (false=true) by decide)] at H;try dsimp only at H
    have H':=aj.mk H
    clear H
    go_wp2
    go_loopg [8,31] kj3 (fun kq v8 v31 w'=>∃ (lM:List (lV)) (aaV:Int),v31 = .int .i64 aaV∧aj (bW.l0 kq a0 a1 a2 lM a2 aaV=some (r1,r2))∧aj (kq≤kj3)∧aj (Kd.S aaq 138 w' w.heap.size (fun _=>True) v8 lM)∧aj (Below w.heap.size w w'))
    case atStart=>exact ⟨(([]:List (lV))),(0),zT,H',⟨Nat.le_refl _⟩,⟨by first|exact Kd.pJ _ _ _ _ _|exact Kd.qj _ _ _ _ _|exact Kd.oH _ _ _ _ _|exact Kd.qm _ _ _ _ _|exact Kd.jW _ _ _ _ _⟩,⟨zB⟩⟩
    case round =>
     clear H'
     obtain ⟨lM,aaV,rfl,HA,HK2,dN,HB⟩:=hrel
     cases gk with
     | zero=>exact absurd HA.out (by simp [bW.l0])
     | succ k2 =>
      have H:=HA.out
      clear HA
      simp only [bW.l0] at H
      by_cases c11:aaV < a2
      ·rw [if_pos c11] at H
       have iQ:=decide_eq_true c11
       clear c11
       replace H:=zO H
       obtain ⟨⟨aiJ,adW⟩,A12,H⟩:=H
       try dsimp only at H
       replace H:=zO H
       obtain ⟨⟨agO,agP⟩,A13,H⟩:=H
       try dsimp only at H
       by_cases c14:agP=0
       ·rw [if_pos c14] at H
        have acG:(agP == 0)=true:=beq_iff_eq.mpr c14
        have aod:(agP != 0)=false:=bne_eq_false_iff_eq.mpr c14
        clear c14
        by_cases c15:lM.length < 4398046511104
        ·rw [if_pos c15] at H
         have anV:=aj.mk c15
         clear c15
         obtain ⟨avj,ahM⟩:∃ y_:List (lV),y_=(lM ++ [(⟨aiJ,agO⟩:lV)]):=⟨_,rfl⟩
         replace H:(bW.l0 k2 a0 a1 a2 avj a2 (wrap64 (aaV+1)))=some (r1,r2):=by first|(rw [ahM];with_reducible exact H)|(have H2_:=(Option.bind_some _ _).symm.trans H;rw [ahM];with_reducible exact H2_)|(have H2_:=(Option.bind_some _ _).symm.trans H;with_reducible exact H2_)|with_reducible exact H|(rw [ahM];exact H)|exact H
         have awS:=aj.mk ahM
         clear ahM
         have H':=aj.mk H
         clear H
         go_wp2_with (first|((with_reducible refine ay (f:=114) rfl ?_);refine aH (some 39) rfl rfl Tryz.func114 (by kernel_rfl) rfl #[.int .i64 a0,.int .i64 a1,.int .i64 a2,.int .i64 aaV] rfl zL ?_;(with_reducible refine (bV.calls k2 a0 a1 a2 aaV aiJ adW _ A12.out).mono ?_);rintro e w16 ⟨ayZ,rfl,ho0,hb⟩;refine ⟨_,rfl,?_⟩;obtain ⟨dN,uG,HB⟩:=zA3 (Kd.adw (by (with_reducible repeat (first|apply Kd.aaG|apply Kd.aaH|apply Kd.acd));exact dN.out) (Kd.jq ho0) hb) (Kd.fV ho0 (bP zB)) (ak zB hb);(try clear hb);(try clear ho0);obtain ⟨aoe,aof,ay0⟩:=Kd.fZ uG.out;subst ay0)|((with_reducible refine ay (f:=115) rfl ?_);refine aH (some 44) rfl rfl Tryz.func115 (by kernel_rfl) rfl #[.slice aoe adW.length aof] rfl zL ?_;(with_reducible refine (aG.calls k2 _ _ adW agO agP _ ?iR ?iT A13.out).mono ?_);(case iR=>repeat (first|exact (Kd.dB uG.out).2.2|(with_reducible refine Kd.jk ?_ _)|(with_reducible refine Kd.jM ?_ _)|(with_reducible refine Kd.kY ?_)));(case iT=>exact (Kd.dB uG.out).2.1);rintro e w18 ⟨ay1,rfl,ho0,hb⟩;refine ⟨_,rfl,?_⟩;obtain ⟨dN,uG,akn,HB⟩:=zA4 (Kd.adw (by (with_reducible repeat (first|apply Kd.aaG|apply Kd.aaH|apply Kd.acd));exact dN.out) (Kd.jq ho0) hb) (Kd.iL (by (with_reducible repeat (first|apply Kd.aK|apply Kd.aQ|apply Kd.aW));exact uG.out) (Kd.jq ho0) hb) (Kd.fV (Kd.jX ho0 (Kd.lK (by (with_reducible repeat (first|apply Kd.aK|apply Kd.aQ|apply Kd.aW));exact uG.out))) (bP zB)) (ak zB hb);(try clear hb);(try clear ho0);obtain ⟨akR,akS,akT⟩:=Kd.fZ akn.out;subst akT)|((with_reducible refine jP (b := .append) (xs := #[.tmp 50,.tmp 54]) rfl ?_);at_builtin;refine Kd.apW aaq (w0:=w) w.heap.size rfl (.tmp 50) (.tmp 54) 39 138 (.agg #[(.int .i64 0),(.slice none 0 0)]) 32 rfl Tryz.underlying39 atv rfl (by decide) (by omega) u8 lM (⟨aiJ,agO⟩:lV) [.int .i64 aiJ,.slice akR agO.length akS] (fun k_=>some k_≠(.slice aoe adW.length aof:Value).ownBlock) (fun k_=>some k_=(.slice akR agO.length akS:Value).ownBlock) rfl rfl ?aP (fun k_ hk_=>((Kd.dO (ok':=fun k_=>((fun k_=>some k_≠(.slice aoe adW.length aof:Value).ownBlock)) k_∧some k_≠(u8:Value).ownBlock) (Kd.akE (akn.out) (Kd.ait dN.out) (by decide)) (fun k_ hk=>⟨hk.1.2,hk.2⟩))).1 k_ hk_.symm) ?aF ?aO ?aB ?aS ?aL ?_;(case aP=>exact akK _ _ _ (⟨aiJ,agO⟩:lV) (Kd.dO (Kd.amH rfl (Kd.dO (ok':=fun k_=>((fun k_=>some k_≠(.slice aoe adW.length aof:Value).ownBlock)) k_∧some k_≠(u8:Value).ownBlock) (Kd.akE (akn.out) (Kd.ait dN.out) (by decide)) (fun k_ hk=>⟨hk.1.2,hk.2⟩))) (fun _ h_=>h_)));(case aB=>exact zB);(case aF=>exact (fun k_ hk=>Kd.fresh' (Kd.lK (by (with_reducible repeat (first|apply Kd.aK|apply Kd.aQ|apply Kd.aW));exact uG.out)) k_ hk));(case aO=>exact (by (with_reducible repeat (first|apply Kd.aaG|apply Kd.aaH|apply Kd.acd));exact Kd.ao5 dN.out (fun k_ hk=>⟨hk.1.2,fun e_=>hk.2 e_⟩)));(case aS=>exact (bP zB));(case aL=>have:=anV.out;omega);intro aEb w20 ho hb hg hat;rw [← awS.out] at ho;obtain ⟨uG,HB,awT⟩:=zA3 (Kd.atq (by (with_reducible repeat (first|apply Kd.aK|apply Kd.aQ|apply Kd.aW));exact uG.out) (Kd.ait (by (with_reducible repeat (first|apply Kd.aaG|apply Kd.aaH|apply Kd.acd));exact dN.out)) (by decide) hg) hb ho;clear ho hb hg hat))
         go_roundg k2
         case measure=>have:=HJ3.out;have:=HK2.out;omega
         case rel=>exact ⟨(avj),(wrap64 (aaV+1)),zT,H',⟨by have:=HJ3.out;have:=HK2.out;omega⟩,⟨by (with_reducible repeat (first|apply Kd.aaG|apply Kd.aaH|apply Kd.acd));exact Kd.ao5 awT.out (fun _ hk=>trivial)⟩,⟨zB⟩⟩
        ·rw [if_neg c15] at H
         exact absurd H (by simp)
       ·rw [if_neg c14] at H
        have acG:(agP == 0)=false:=beq_eq_false_iff_ne.mpr c14
        have aod:(agP != 0)=true:=bne_iff_ne.mpr c14
        simp only [Option.some.injEq,Prod.mk.injEq] at H
        obtain ⟨rfl,rfl⟩:=H
        go_wp2_with (first|((with_reducible refine ay (f:=114) rfl ?_);refine aH (some 39) rfl rfl Tryz.func114 (by kernel_rfl) rfl #[.int .i64 a0,.int .i64 a1,.int .i64 a2,.int .i64 aaV] rfl zL ?_;(with_reducible refine (bV.calls k2 a0 a1 a2 aaV aiJ adW _ A12.out).mono ?_);rintro e w21 ⟨ayZ,rfl,ho0,hb⟩;refine ⟨_,rfl,?_⟩;obtain ⟨dN,uG,HB⟩:=zA3 (Kd.adw (by (with_reducible repeat (first|apply Kd.aaG|apply Kd.aaH|apply Kd.acd));exact dN.out) (Kd.jq ho0) hb) (Kd.fV ho0 (bP zB)) (ak zB hb);(try clear hb);(try clear ho0);obtain ⟨agJ,xW,aq6⟩:=Kd.fZ uG.out;subst aq6)|((with_reducible refine ay (f:=115) rfl ?_);refine aH (some 44) rfl rfl Tryz.func115 (by kernel_rfl) rfl #[.slice agJ adW.length xW] rfl zL ?_;(with_reducible refine (aG.calls k2 _ _ adW agO agP _ ?iR ?iT A13.out).mono ?_);(case iR=>repeat (first|exact (Kd.dB uG.out).2.2|(with_reducible refine Kd.jk ?_ _)|(with_reducible refine Kd.jM ?_ _)|(with_reducible refine Kd.kY ?_)));(case iT=>exact (Kd.dB uG.out).2.1);rintro e w23 ⟨ay1,rfl,ho0,hb⟩;refine ⟨_,rfl,?_⟩;obtain ⟨dN,uG,akn,HB⟩:=zA4 (Kd.adw (by (with_reducible repeat (first|apply Kd.aaG|apply Kd.aaH|apply Kd.acd));exact dN.out) (Kd.jq ho0) hb) (Kd.iL (by (with_reducible repeat (first|apply Kd.aK|apply Kd.aQ|apply Kd.aW));exact uG.out) (Kd.jq ho0) hb) (Kd.fV (Kd.jX ho0 (Kd.lK (by (with_reducible repeat (first|apply Kd.aK|apply Kd.aQ|apply Kd.aW));exact uG.out))) (bP zB)) (ak zB hb);(try clear hb);(try clear ho0)))
        go_ret2
        exact ⟨_,zS,by first|exact Kd.pJ _ _ _ _ _|exact Kd.qj _ _ _ _ _|exact Kd.oH _ _ _ _ _|exact Kd.qm _ _ _ _ _|exact Kd.jW _ _ _ _ _,zB⟩
      ·rw [if_neg c11] at H
       have iQ:=decide_eq_false c11
       clear c11
       simp only [Option.some.injEq,Prod.mk.injEq] at H
       obtain ⟨rfl,rfl⟩:=H
       go_wp2
       go_ret2
       exact ⟨_,zS,by (with_reducible repeat (first|apply Kd.aaG|apply Kd.aaH|apply Kd.acd));exact dN.out,zB⟩
end Go.Proofs.YtpondkggmcmpfaaGreatDoor.QA
namespace Go.Proofs.YtpondkggmcmpfaaGreatDoor.QA
open Go.Proofs.YtpondkggmcmpfaaGreatDoor.T
open Go.RowKit Go.Proofs.YtpondkggmcmpfaaGreatDoorW.PrintWords Go.Proofs.YtpondkggmcmpfaaGreatDoorW.PrintLast Go.Proofs.YtpondkggmcmpfaaGreatDoorW.PrintMore
attribute [local go_sem] dV dP dQ fC fD
set_option linter.unusedVariables false
set_option linter.unusedSimpArgs false
mutual
def dS.j0:Nat→Int→Option (Int)
 | 0,_=>none
 | k+1,x0=>(dW.f k x0 762123384786).bind fun abt=>(dS.l0 k abt (wrap64 (x0 - (wrap64 (abt*762123384786)))) 1099511627776 0 1099511627776 1)
def dS.l0:Nat→Int→Int→Int→Int→Int→Int→Option (Int)
 | 0,_,_,_,_,_,_=>none
 | k+1,x3,x4,x5,x6,x7,x8=>if x8≤16 then ((aX.f k x7 x4 (wrap64 (x8*1099511627776))).bind fun ace=>(if (Int.tmod x8 2)=1 then (dS.l0 k x3 x4 x5 (wrap64 (x6+ace)) ace (wrap64 (x8+1))) else (dS.l0 k x3 x4 (wrap64 (x5+ace)) x6 ace (wrap64 (x8+1))))) else ((aJ.f k (wrap64 (x5 - x6)) x3).bind fun arf=>(some arf))
end
def dS.f (k:Nat) (a0:Int):Option (Int):=if a0 < 0 then (dS.j0 k 0) else (dS.j0 k a0)
set_option maxHeartbeats 8000000 in
set_option maxRecDepth 100000 in
theorem dS.calls (k:Nat) (a0 r:Int) (w:World) (h:dS.f k a0=some r) :
  Calls Tryz.prog 145 #[.int .i64 a0] w fun e w'=>e = .returned (.int .i64 r)∧Below w.heap.size w w':=by
 have HB:=aj.mk (Below.refl w.heap.size w)
 have H:=h
 clear h
 unfold dS.f at H
 have HC2:=aj.mk H
 clear H
 go_enter Tryz.func145,Tryz.ntmps145
 go_upto_if 10 with (fail)
 go_cut [0] (fun v0 wc=>∃ (kq:Nat) (ac3:Int),v0 = .int .i64 ac3∧aj (dS.j0 kq ac3=some r)∧aj (kq≤k)∧aj (Below w.heap.size w wc))
 case first =>
  have H:=HC2.out
  clear HC2
  by_cases c3:a0 < 0
  ·rw [if_pos c3] at H
   have fQ:=decide_eq_true c3
   clear c3
   (first|rw [fQ]|(simp only [bY,dw];rw [fQ])|skip)
   have H':=aj.mk H
   clear H
   go_wp2
   go_meet
   case rel=>exact ⟨_,(0),zT,H',⟨by first|omega|exact Nat.le_refl _⟩,⟨zB⟩⟩
  ·rw [if_neg c3] at H
   have fQ:=decide_eq_false c3
   clear c3
   (first|rw [fQ]|(simp only [bY,dw];rw [fQ])|skip)
   have H':=aj.mk H
   clear H
   go_wp2
   go_meet
   case rel=>exact ⟨_,(a0),zT,H',⟨by first|omega|exact Nat.le_refl _⟩,⟨zB⟩⟩
 case rest =>
  clear HC2
  obtain ⟨kq,ac3,rfl,HA,HJ1,HB⟩:=hcut
  cases kq with
  | zero=>exact absurd HA.out (by simp [dS.j0])
  | succ kj1 =>
   have H:=HA.out
   clear HA
   simp only [dS.j0] at H
   replace H:=zO H
   obtain ⟨abt,A4,H⟩:=H
   try dsimp only at H
   have H':=aj.mk H
   clear H
   go_wp2_with (first|((with_reducible refine ay (f:=144) rfl ?_);refine aH (some 12) rfl rfl Tryz.func144 (by kernel_rfl) rfl #[.int .i64 ac3,.int .i64 762123384786] rfl zL ?_;(with_reducible refine (dW.calls kj1 ac3 762123384786 abt _ A4.out).mono ?_);rintro e w5 ⟨rfl,hb⟩;refine ⟨_,rfl,?_⟩;replace HB:=aj.mk (ak zB hb);(try clear hb)))
   go_loopg [5,6,7,8] kj1 (fun kq v5 v6 v7 v8 w'=>∃ (mW:Int) (xX:Int) (aaE:Int) (lM:Int),v5 = .int .i64 mW∧v6 = .int .i64 xX∧v7 = .int .i64 aaE∧v8 = .int .i64 lM∧aj (dS.l0 kq abt (wrap64 (ac3 - (wrap64 (abt*762123384786)))) mW xX aaE lM=some r)∧aj (kq≤kj1)∧aj (Below w.heap.size w w'))
   case atStart=>exact ⟨(1099511627776),(0),(1099511627776),(1),zT,zT,zT,zT,H',⟨Nat.le_refl _⟩,⟨zB⟩⟩
   case round =>
    clear H'
    obtain ⟨mW,xX,aaE,lM,rfl,rfl,rfl,rfl,HA,HK2,HB⟩:=hrel
    cases gk with
    | zero=>exact absurd HA.out (by simp [dS.l0])
    | succ k2 =>
     have H:=HA.out
     clear HA
     simp only [dS.l0] at H
     by_cases c6:lM≤16
     ·rw [if_pos c6] at H
      have iw:=decide_eq_true c6
      clear c6
      replace H:=zO H
      obtain ⟨ace,A7,H⟩:=H
      try dsimp only at H
      by_cases c8:(Int.tmod lM 2)=1
      ·rw [if_pos c8] at H
       have um:((Int.tmod lM 2) == 1)=true:=beq_iff_eq.mpr c8
       have aas:((Int.tmod lM 2) != 1)=false:=bne_eq_false_iff_eq.mpr c8
       clear c8
       have H':=aj.mk H
       clear H
       go_wp2_with (first|((with_reducible refine ay (f:=118) rfl ?_);refine aH (some 25) rfl rfl Tryz.func118 (by kernel_rfl) rfl #[.int .i64 aaE,.int .i64 (wrap64 (ac3 - (wrap64 (abt*762123384786)))),.int .i64 (wrap64 (lM*1099511627776))] rfl zL ?_;(with_reducible refine (aX.calls k2 aaE (wrap64 (ac3 - (wrap64 (abt*762123384786)))) (wrap64 (lM*1099511627776)) ace _ A7.out).mono ?_);rintro e w9 ⟨rfl,hb⟩;refine ⟨_,rfl,?_⟩;replace HB:=aj.mk (ak zB hb);(try clear hb)))
       go_roundg k2
       case measure=>have:=HJ1.out;have:=HK2.out;omega
       case rel=>exact ⟨(mW),(wrap64 (xX+ace)),(ace),(wrap64 (lM+1)),zT,zT,zT,zT,H',⟨by have:=HJ1.out;have:=HK2.out;omega⟩,⟨zB⟩⟩
      ·rw [if_neg c8] at H
       have um:((Int.tmod lM 2) == 1)=false:=beq_eq_false_iff_ne.mpr c8
       have aas:((Int.tmod lM 2) != 1)=true:=bne_iff_ne.mpr c8
       have H':=aj.mk H
       clear H
       go_wp2_with (first|((with_reducible refine ay (f:=118) rfl ?_);refine aH (some 25) rfl rfl Tryz.func118 (by kernel_rfl) rfl #[.int .i64 aaE,.int .i64 (wrap64 (ac3 - (wrap64 (abt*762123384786)))),.int .i64 (wrap64 (lM*1099511627776))] rfl zL ?_;(with_reducible refine (aX.calls k2 aaE (wrap64 (ac3 - (wrap64 (abt*762123384786)))) (wrap64 (lM*1099511627776)) ace _ A7.out).mono ?_);rintro e w10 ⟨rfl,hb⟩;refine ⟨_,rfl,?_⟩;replace HB:=aj.mk (ak zB hb);(try clear hb)))
       go_roundg k2
       case measure=>have:=HJ1.out;have:=HK2.out;omega
       case rel=>exact ⟨(wrap64 (mW+ace)),(xX),(ace),(wrap64 (lM+1)),zT,zT,zT,zT,H',⟨by have:=HJ1.out;have:=HK2.out;omega⟩,⟨zB⟩⟩
     ·rw [if_neg c6] at H
      have iw:=decide_eq_false c6
      clear c6
      replace H:=zO H
      obtain ⟨arf,A11,H⟩:=H
      try dsimp only at H
      obtain rfl:=Option.some.inj H
      go_wp2_with (first|((with_reducible refine ay (f:=101) rfl ?_);refine aH (some 39) rfl rfl Tryz.func101 (by kernel_rfl) rfl #[.int .i64 (wrap64 (mW - xX)),.int .i64 abt] rfl zL ?_;(with_reducible refine (aJ.calls k2 (wrap64 (mW - xX)) abt arf _ A11.out).mono ?_);rintro e w12 ⟨rfl,hb⟩;refine ⟨_,rfl,?_⟩;replace HB:=aj.mk (ak zB hb);(try clear hb)))
      go_ret
      exact ⟨zS,zB⟩
def mX.f (k:Nat) (a0 a1:Int):Option (Int):=if a1 < 1 then (some 9223372036854775807) else (if a1 > 4194304 then (some 9223372036854775807) else (if a0 < (-16384) then (some 9223372036854775807) else (if a0 > 16384 then (some 9223372036854775807) else ((aX.f k (wrap64 ((wrap64 (a0*a0))*2147483648)) 1099511627776 (wrap64 (a1*a1))).bind fun arh=>(some arh)))))
set_option maxHeartbeats 8000000 in
set_option maxRecDepth 100000 in
theorem mX.calls (k:Nat) (a0 a1 r:Int) (w:World) (h:mX.f k a0 a1=some r) :
  Calls Tryz.prog 146 #[.int .i64 a0,.int .i64 a1] w fun e w'=>e = .returned (.int .i64 r)∧Below w.heap.size w w':=by
 have HB:=aj.mk (Below.refl w.heap.size w)
 have H:=h
 clear h
 unfold mX.f at H
 by_cases c3:a1 < 1
 ·rw [if_pos c3] at H
  have fQ:=decide_eq_true c3
  clear c3
  obtain rfl:=Option.some.inj H
  go_enter Tryz.func146,Tryz.ntmps146
  go_wp2
  go_ret
  exact ⟨zS,zB⟩
 ·rw [if_neg c3] at H
  have fQ:=decide_eq_false c3
  clear c3
  by_cases c4:a1 > 4194304
  ·rw [if_pos c4] at H
   have fB:=decide_eq_true c4
   clear c4
   obtain rfl:=Option.some.inj H
   go_enter Tryz.func146,Tryz.ntmps146
   go_wp2
   go_ret
   exact ⟨zS,zB⟩
  ·rw [if_neg c4] at H
   have fB:=decide_eq_false c4
   clear c4
   by_cases c5:a0 < (-16384)
   ·rw [if_pos c5] at H
    have gQ:=decide_eq_true c5
    clear c5
    obtain rfl:=Option.some.inj H
    go_enter Tryz.func146,Tryz.ntmps146
    go_wp2
    go_ret
    exact ⟨zS,zB⟩
   ·rw [if_neg c5] at H
    have gQ:=decide_eq_false c5
    clear c5
    by_cases c6:a0 > 16384
    ·rw [if_pos c6] at H
     have iw:=decide_eq_true c6
     clear c6
     obtain rfl:=Option.some.inj H
     go_enter Tryz.func146,Tryz.ntmps146
     go_wp2
     go_ret
     exact ⟨zS,zB⟩
    ·rw [if_neg c6] at H
     have iw:=decide_eq_false c6
     clear c6
     replace H:=zO H
     obtain ⟨arh,A7,H⟩:=H
     try dsimp only at H
     obtain rfl:=Option.some.inj H
     go_enter Tryz.func146,Tryz.ntmps146
     go_wp2_with (first|((with_reducible refine ay (f:=118) rfl ?_);refine aH (some 26) rfl rfl Tryz.func118 (by kernel_rfl) rfl #[.int .i64 (wrap64 ((wrap64 (a0*a0))*2147483648)),.int .i64 1099511627776,.int .i64 (wrap64 (a1*a1))] rfl zL ?_;(with_reducible refine (aX.calls k (wrap64 ((wrap64 (a0*a0))*2147483648)) 1099511627776 (wrap64 (a1*a1)) arh _ A7.out).mono ?_);rintro e w8 ⟨rfl,hb⟩;refine ⟨_,rfl,?_⟩;replace HB:=aj.mk (ak zB hb);(try clear hb)))
     go_ret
     exact ⟨zS,zB⟩
def mY.f (k:Nat) (a0 a1:Int):Option (Int):=(mX.f k a0 a1).bind fun alD=>((dS.f k alD).bind fun alE=>((aJ.f k alE 10).bind fun ari=>(some ari)))
set_option maxHeartbeats 8000000 in
set_option maxRecDepth 100000 in
theorem mY.calls (k:Nat) (a0 a1 r:Int) (w:World) (h:mY.f k a0 a1=some r) :
  Calls Tryz.prog 116 #[.int .i64 a0,.int .i64 a1] w fun e w'=>e = .returned (.int .i64 r)∧Below w.heap.size w w':=by
 have HB:=aj.mk (Below.refl w.heap.size w)
 have H:=h
 clear h
 unfold mY.f at H
 replace H:=zO H
 obtain ⟨alD,A3,H⟩:=H
 try dsimp only at H
 replace H:=zO H
 obtain ⟨alE,A4,H⟩:=H
 try dsimp only at H
 replace H:=zO H
 obtain ⟨ari,A5,H⟩:=H
 try dsimp only at H
 obtain rfl:=Option.some.inj H
 go_enter Tryz.func116,Tryz.ntmps116
 go_wp2_with (first|((with_reducible refine ay (f:=146) rfl ?_);refine aH (some 7) rfl rfl Tryz.func146 (by kernel_rfl) rfl #[.int .i64 a0,.int .i64 a1] rfl zL ?_;(with_reducible refine (mX.calls k a0 a1 alD _ A3.out).mono ?_);rintro e w6 ⟨rfl,hb⟩;refine ⟨_,rfl,?_⟩;replace HB:=aj.mk (ak zB hb);(try clear hb))|((with_reducible refine ay (f:=145) rfl ?_);refine aH (some 8) rfl rfl Tryz.func145 (by kernel_rfl) rfl #[.int .i64 alD] rfl zL ?_;(with_reducible refine (dS.calls k alD alE _ A4.out).mono ?_);rintro e w7 ⟨rfl,hb⟩;refine ⟨_,rfl,?_⟩;replace HB:=aj.mk (ak zB hb);(try clear hb))|((with_reducible refine ay (f:=101) rfl ?_);refine aH (some 9) rfl rfl Tryz.func101 (by kernel_rfl) rfl #[.int .i64 alE,.int .i64 10] rfl zL ?_;(with_reducible refine (aJ.calls k alE 10 ari _ A5.out).mono ?_);rintro e w8 ⟨rfl,hb⟩;refine ⟨_,rfl,?_⟩;replace HB:=aj.mk (ak zB hb);(try clear hb)))
 go_ret
 exact ⟨zS,zB⟩
end Go.Proofs.YtpondkggmcmpfaaGreatDoor.QA
namespace Go.Proofs.YtpondkggmcmpfaaGreatDoor.QA
open Go.Proofs.YtpondkggmcmpfaaGreatDoor.T
open Go.RowKit Go.Proofs.YtpondkggmcmpfaaGreatDoorW.PrintWords Go.Proofs.YtpondkggmcmpfaaGreatDoorW.PrintLast Go.Proofs.YtpondkggmcmpfaaGreatDoorW.PrintMore
attribute [local go_sem] dV dP dQ fC fD
set_option linter.unusedVariables false
set_option linter.unusedSimpArgs false
mutual
def bg.j0:Nat→Int→Bool→Option (List Int × Int)
 | 0,_,_=>none
 | k+1,x0,x12=>if x12=true then (some (([]:List Int),7)) else (bg.l0 k x0 0)
def bg.l0:Nat→Int→Int→Option (List Int × Int)
 | 0,_,_=>none
 | k+1,x0,x4=>if (wrap64 (x4*65536)) < (wrap64 (3*x0)) then (bg.l0 k x0 (wrap64 (x4+1))) else (bg.l1 k x0 x4 ([]:List Int) (wrap64 (-x4)))
def bg.l1:Nat→Int→Int→List Int→Int→Option (List Int × Int)
 | 0,_,_,_,_=>none
 | k+1,x0,x4,x5,x6=>if x6≤x4 then ((mY.f k x6 x0).bind fun aiK=>(if x5.length < 17592186044416 then (bg.l1 k x0 x4 (x5 ++ [aiK]) (wrap64 (x6+1))) else (none))) else (some (x5,0))
end
def bg.f (k:Nat) (a0:Int):Option (List Int × Int):=if a0 < 1 then (bg.j0 k a0 true) else (bg.j0 k a0 (decide (a0 > 4194304)))
set_option maxHeartbeats 8000000 in
set_option maxRecDepth 100000 in
theorem bg.calls (k:Nat) (a0:Int) (r1:List Int) (r2:Int) (w:World) (h:bg.f k a0=some (r1,r2)) :
  Calls Tryz.prog 94 #[.int .i64 a0] w fun e w'=>∃ v0_:Value,e = .returned (.tuple #[v0_,.int .i64 r2])∧Kd.R (Kd.int .i64) 2 w' w.heap.size (fun _=>True) v0_ r1∧Below w.heap.size w w':=by
 have HB:=aj.mk (Below.refl w.heap.size w)
 have H:=h
 clear h
 unfold bg.f at H
 have HC2:=aj.mk H
 clear H
 go_enter Tryz.func94,Tryz.ntmps94
 go_upto_region 1 with (fail)
 go_cut [12] (fun v12 wc=>∃ (kq:Nat) (abA:Bool),v12 = .bool abA∧aj (bg.j0 kq a0 abA=some (r1,r2))∧aj (kq≤k)∧aj (Below w.heap.size w wc))
 case first =>
  have H:=HC2.out
  clear HC2
  by_cases c3:a0 < 1
  ·rw [if_pos c3] at H
   have fQ:=decide_eq_true c3
   clear c3
   (first|rw [fQ]|(simp only [bY,dw];rw [fQ])|skip)
   have H':=aj.mk H
   clear H
   go_wp2
   go_meet
   case rel=>exact ⟨_,(true),zT,H',⟨by first|omega|exact Nat.le_refl _⟩,⟨zB⟩⟩
  ·rw [if_neg c3] at H
   have fQ:=decide_eq_false c3
   clear c3
   (first|rw [fQ]|(simp only [bY,dw];rw [fQ])|skip)
   have H':=aj.mk H
   clear H
   go_wp2
   go_meet
   case rel=>exact ⟨_,(decide (a0 > 4194304)),zT,H',⟨by first|omega|exact Nat.le_refl _⟩,⟨zB⟩⟩
 case rest =>
  clear HC2
  obtain ⟨kq,abA,rfl,HA,HJ1,HB⟩:=hcut
  cases kq with
  | zero=>exact absurd HA.out (by simp [bg.j0])
  | succ kj1 =>
   have H:=HA.out
   clear HA
   simp only [bg.j0] at H
   by_cases c4:abA=true
   ·subst c4
    rw [if_pos rfl] at H;try dsimp only at H
    simp only [Option.some.injEq,Prod.mk.injEq] at H
    obtain ⟨rfl,rfl⟩:=H
    go_wp2
    go_ret2
    exact ⟨_,zS,by first|exact Kd.jW _ _ _ _ _|exact Kd.qj _ _ _ _ _|exact Kd.oH _ _ _ _ _|exact Kd.qm _ _ _ _ _|exact Kd.pJ _ _ _ _ _,zB⟩
   ·replace c4:=Bool.eq_false_iff.mpr c4
    subst c4
    rw [if_neg (show ¬ (false=true) by decide)] at H;try dsimp only at H
    have H':=aj.mk H
    clear H
    go_wp2
    go_loopg [4] kj1 (fun kq v4 w'=>∃ (wH:Int),v4 = .int .i64 wH∧aj (bg.l0 kq a0 wH=some (r1,r2))∧aj (kq≤kj1)∧aj (Below w.heap.size w w'))
    case atStart=>exact ⟨(0),zT,H',⟨Nat.le_refl _⟩,⟨zB⟩⟩
    case round =>
     clear H'
     obtain ⟨wH,rfl,HA,HK2,HB⟩:=hrel
     cases gk with
     | zero=>exact absurd HA.out (by simp [bg.l0])
     | succ k2 =>
      have H:=HA.out
      clear HA
      simp only [bg.l0] at H
      by_cases c5:(wrap64 (wH*65536)) < (wrap64 (3*a0))
      ·rw [if_pos c5] at H
       have gQ:=decide_eq_true c5
       clear c5
       have H':=aj.mk H
       clear H
       go_wp2
       go_roundg k2
       case measure=>have:=HJ1.out;have:=HK2.out;omega
       case rel=>exact ⟨(wrap64 (wH+1)),zT,H',⟨by have:=HJ1.out;have:=HK2.out;omega⟩,⟨zB⟩⟩
      ·rw [if_neg c5] at H
       have gQ:=decide_eq_false c5
       clear c5
       have H':=aj.mk H
       clear H
       go_wp2
       try simp only [Act.put,List.setIfInBounds_toArray,List.set_cons_succ,List.set_cons_zero]
       go_loopg [5,6] k2 (fun kq v5 v6 w'=>∃ (aiL:List Int) (ae3:Int),v6 = .int .i64 ae3∧aj (bg.l1 kq a0 wH aiL ae3=some (r1,r2))∧aj (kq≤k2)∧aj (Kd.R (Kd.int .i64) 2 w' w.heap.size (fun _=>True) v5 aiL)∧aj (Below w.heap.size w w'))
       case atStart=>exact ⟨(([]:List Int)),(wrap64 (-wH)),zT,H',⟨Nat.le_refl _⟩,⟨by first|exact Kd.jW _ _ _ _ _|exact Kd.qj _ _ _ _ _|exact Kd.oH _ _ _ _ _|exact Kd.qm _ _ _ _ _|exact Kd.pJ _ _ _ _ _⟩,⟨zB⟩⟩
       case round =>
        clear H'
        obtain ⟨aiL,ae3,rfl,HA,HK3,xA,HB⟩:=hrel
        cases gk with
        | zero=>exact absurd HA.out (by simp [bg.l1])
        | succ k3 =>
         have H:=HA.out
         clear HA
         simp only [bg.l1] at H
         by_cases c6:ae3≤wH
         ·rw [if_pos c6] at H
          have iw:=decide_eq_true c6
          clear c6
          replace H:=zO H
          obtain ⟨aiK,A7,H⟩:=H
          try dsimp only at H
          by_cases c8:aiL.length < 17592186044416
          ·rw [if_pos c8] at H
           have ay2:=aj.mk c8
           clear c8
           obtain ⟨avk,ahN⟩:∃ y_:List Int,y_=(aiL ++ [aiK]):=⟨_,rfl⟩
           replace H:(bg.l1 k3 a0 wH avk (wrap64 (ae3+1)))=some (r1,r2):=by first|(rw [ahN];with_reducible exact H)|(have H2_:=(Option.bind_some _ _).symm.trans H;rw [ahN];with_reducible exact H2_)|(have H2_:=(Option.bind_some _ _).symm.trans H;with_reducible exact H2_)|with_reducible exact H|(rw [ahN];exact H)|exact H
           have awU:=aj.mk ahN
           clear ahN
           have H':=aj.mk H
           clear H
           go_wp2_with (first|((with_reducible refine ay (f:=116) rfl ?_);refine aH (some 30) rfl rfl Tryz.func116 (by kernel_rfl) rfl #[.int .i64 ae3,.int .i64 a0] rfl zL ?_;(with_reducible refine (mY.calls k3 ae3 a0 aiK _ A7.out).mono ?_);rintro e w9 ⟨rfl,hb⟩;refine ⟨_,rfl,?_⟩;obtain ⟨xA,HB⟩:=zA2 (Kd.ji (by (with_reducible repeat (first|apply Kd.aK|apply Kd.aQ|apply Kd.aW));exact xA.out) hb) (ak zB hb);(try clear hb))|((with_reducible refine jP (b := .append) (xs := #[.tmp 27,.tmp 31]) rfl ?_);at_builtin;refine Kd.kS (Kd.int .i64) (w0:=w) w.heap.size rfl (.tmp 27) (.tmp 31) 44 2 (.int .i64 0) 8 rfl Tryz.underlying44 wK rfl (by decide) (by omega) u5 aiL aiK [.int .i64 aiK] (fun _=>True) (fun _=>False) rfl rfl ?aP (fun _ hk=>hk.elim) ?aF ?aO ?aB ?aS ?aL ?_;(case aP=>exact rfl);(case aB=>exact zB);(case aF=>exact (fun _ _=>trivial));(case aO=>exact (by (with_reducible repeat (first|apply Kd.aK|apply Kd.aQ|apply Kd.aW));exact xA.out));(case aS=>exact (bP zB));(case aL=>have:=ay2.out;omega);intro aEc w10 ho hb hg hat;rw [← awU.out] at ho;obtain ⟨HB,awV⟩:=zA2 hb ho;clear ho hb hg hat))
           go_roundg k3
           case measure=>have:=HJ1.out;have:=HK2.out;have:=HK3.out;omega
           case rel=>exact ⟨(avk),(wrap64 (ae3+1)),zT,H',⟨by have:=HJ1.out;have:=HK2.out;have:=HK3.out;omega⟩,⟨by (with_reducible repeat (first|apply Kd.aK|apply Kd.aQ|apply Kd.aW));exact awV.out⟩,⟨zB⟩⟩
          ·rw [if_neg c8] at H
           exact absurd H (by simp)
         ·rw [if_neg c6] at H
          have iw:=decide_eq_false c6
          clear c6
          simp only [Option.some.injEq,Prod.mk.injEq] at H
          obtain ⟨rfl,rfl⟩:=H
          go_wp2
          go_ret2
          exact ⟨_,zS,by (with_reducible repeat (first|apply Kd.aK|apply Kd.aQ|apply Kd.aW));exact xA.out,zB⟩
def iD.l0:Nat→Int→List Int→Int→Int→Option (Int)
 | 0,_,_,_,_=>none
 | k+1,x3,x6,x7,x8=>if x8 < x7 then (if 0≤x8 then (if x8 < (x6.length:Int) then ((iM.f (rd x6 x8)).bind fun alF=>((gX.f k x3 alF).bind fun aog=>(iD.l0 k aog x6 x7 (wrap64 (x8+1))))) else (none)) else (none)) else (some x3)
def iD.f (k:Nat) (l0:List Int):Option (Int):=iD.l0 k 0 l0 (l0.length:Int) 0
set_option maxHeartbeats 8000000 in
set_option maxRecDepth 100000 in
theorem iD.calls (k:Nat) (A0:Option Addr) (c0:Nat) (l0:List Int) (r:Int) (w:World) (hr0:Kd.C (Kd.int .i64) w A0 l0.length l0) (hc0:l0.length≤c0) (h:iD.f k l0=some r) :
  Calls Tryz.prog 117 #[.slice A0 l0.length c0] w fun e w'=>e = .returned (.int .i64 r)∧cO w w':=by
 have HR0:=aj.mk hr0
 have HC0:=aj.mk hc0
 clear hr0 hc0
 have H:=h
 clear h
 unfold iD.f at H
 have H':=aj.mk H
 clear H
 go_enter Tryz.func117,Tryz.ntmps117
 go_wp2
 go_loopg [3,8] k (fun kq v3 v8 w'=>∃ (oM:Int) (iy:Int),v3 = .int .i64 oM∧v8 = .int .i64 iy∧aj (iD.l0 kq oM l0 (l0.length:Int) iy=some r)∧aj (kq≤k)∧cO w w')
 case atStart=>exact ⟨(0),(0),zT,zT,H',⟨Nat.le_refl _⟩,zW⟩
 case round =>
  clear H'
  obtain ⟨oM,iy,rfl,rfl,HA,HK1,⟨m1,rfl⟩⟩:=hrel
  cases gk with
  | zero=>exact absurd HA.out (by simp [iD.l0])
  | succ k1 =>
   have H:=HA.out
   clear HA
   simp only [iD.l0] at H
   by_cases c2:iy < (l0.length:Int)
   ·rw [if_pos c2] at H
    have nD:=decide_eq_true c2
    clear c2
    by_cases c3:0≤iy
    ·rw [if_pos c3] at H
     have fQ:=decide_eq_true c3
     clear c3
     by_cases c4:iy < (l0.length:Int)
     ·rw [if_pos c4] at H
      have fB:=decide_eq_true c4
      clear c4
      replace H:=zO H
      obtain ⟨alF,A5,H⟩:=H
      try dsimp only at H
      replace H:=zO H
      obtain ⟨aog,A6,H⟩:=H
      try dsimp only at H
      have H':=aj.mk H
      clear H
      have arj:0≤(iy:Int):=of_decide_eq_true (by first|(with_reducible assumption)|assumption)
      have ark:iy < (l0.length:Int):=of_decide_eq_true (by first|(with_reducible assumption)|assumption)
      obtain ⟨aCx,ay3,az4⟩:=Kd.iI HR0.out iy arj ark
      cases ay3
      replace arj:=eq_true arj
      replace ark:=eq_true ark
      go_wp2_with (first|((with_reducible refine ay (f:=142) rfl ?_);refine aH (some 14) rfl rfl Tryz.func142 (by kernel_rfl) rfl #[.int .i64 (rd l0 iy)] rfl zL ?_;(with_reducible refine (iM.calls (rd l0 iy) alF _ A5.out).mono ?_);rintro e w' ⟨rfl,⟨nd,rfl⟩⟩;refine ⟨_,rfl,?_⟩)|((with_reducible refine ay (f:=147) rfl ?_);refine aH (some 15) rfl rfl Tryz.func147 (by kernel_rfl) rfl #[.int .i64 oM,.int .i64 alF] rfl zL ?_;(with_reducible refine (gX.calls k1 oM alF aog _ A6.out).mono ?_);rintro e w' ⟨rfl,⟨nd,rfl⟩⟩;refine ⟨_,rfl,?_⟩))
      go_roundg k1
      case measure=>have:=HK1.out;omega
      case rel=>exact ⟨(aog),(wrap64 (iy+1)),zT,zT,H',⟨by have:=HK1.out;omega⟩,zW⟩
     ·rw [if_neg c4] at H
      exact absurd H (by simp)
    ·rw [if_neg c3] at H
     exact absurd H (by simp)
   ·rw [if_neg c2] at H
    have nD:=decide_eq_false c2
    clear c2
    obtain rfl:=Option.some.inj H
    go_wp2
    go_ret
    exact ⟨zT,zW⟩
end Go.Proofs.YtpondkggmcmpfaaGreatDoor.QA
namespace Go.Proofs.YtpondkggmcmpfaaGreatDoor.QA
open Go.Proofs.YtpondkggmcmpfaaGreatDoor.T
open Go.RowKit Go.Proofs.YtpondkggmcmpfaaGreatDoorW.PrintWords Go.Proofs.YtpondkggmcmpfaaGreatDoorW.PrintLast Go.Proofs.YtpondkggmcmpfaaGreatDoorW.PrintMore
attribute [local go_sem] dV dP dQ fC fD
set_option linter.unusedVariables false
set_option linter.unusedSimpArgs false
mutual
def bM.j0:Nat→List Int→Int→Bool→Option (List Int × Int)
 | 0,_,_,_=>none
 | k+1,x0,x4,x26=>if x26=true then (some (([]:List Int),7)) else (bM.l0 k x4 ([]:List Int) x0 (x0.length:Int) 0)
def bM.l0:Nat→Int→List Int→List Int→Int→Int→Option (List Int × Int)
 | 0,_,_,_,_,_=>none
 | k+1,x4,x5,x27,x28,x29=>if x29 < x28 then (if 0≤x29 then (if x29 < (x27.length:Int) then ((aX.f k (rd x27 x29) 1073741824 x4).bind fun aiM=>(if x5.length < 17592186044416 then (bM.l0 k x4 (x5 ++ [aiM]) x27 x28 (wrap64 (x29+1))) else (none))) else (none)) else (none)) else (some (x5,0))
end
def bM.f (k:Nat) (l0:List Int):Option (List Int × Int):=(iD.f k l0).bind fun vP=>(if ((l0.length:Int) % 2)=0 then (bM.j0 k l0 vP true) else (if (l0.length:Int) > 1024 then (bM.j0 k l0 vP true) else (if vP=0 then (bM.j0 k l0 vP true) else (bM.j0 k l0 vP (decide (vP > 1048576))))))
set_option maxHeartbeats 8000000 in
set_option maxRecDepth 100000 in
theorem bM.calls (k:Nat) (A0:Option Addr) (c0:Nat) (l0 r1:List Int) (r2:Int) (w:World) (hr0:Kd.C (Kd.int .i64) w A0 l0.length l0) (hc0:l0.length≤c0) (h:bM.f k l0=some (r1,r2)) :
  Calls Tryz.prog 96 #[.slice A0 l0.length c0] w fun e w'=>∃ v0_:Value,e = .returned (.tuple #[v0_,.int .i64 r2])∧Kd.R (Kd.int .i64) 2 w' w.heap.size (fun _=>True) v0_ r1∧Below w.heap.size w w':=by
 have HR0:=aj.mk hr0
 have HC0:=aj.mk hc0
 clear hr0 hc0
 have HB:=aj.mk (Below.refl w.heap.size w)
 have H:=h
 clear h
 unfold bM.f at H
 replace H:=zO H
 obtain ⟨vP,A2,H⟩:=H
 try dsimp only at H
 have HC3:=aj.mk H
 clear H
 go_enter Tryz.func96,Tryz.ntmps96
 go_upto_region 2 with (first|((with_reducible refine ay (f:=117) rfl ?_);refine aH (some 9) rfl rfl Tryz.func117 (by kernel_rfl) rfl #[.slice A0 l0.length c0] rfl zL ?_;(with_reducible refine (iD.calls k _ _ l0 vP _ ?iR ?iT A2.out).mono ?_);(case iR=>repeat (first|exact HR0.out|(with_reducible refine Kd.jk ?_ _)|(with_reducible refine Kd.jM ?_ _)|(with_reducible refine Kd.kY ?_)));(case iT=>exact HC0.out);rintro e w' ⟨rfl,⟨nd,rfl⟩⟩;refine ⟨_,rfl,?_⟩))
 (try simp only [Act.put,List.setIfInBounds_toArray,List.set_cons_zero,List.set_cons_succ])
 go_cut [26] (fun v26 wc=>∃ (kq:Nat) (abB:Bool),v26 = .bool abB∧aj (bM.j0 kq l0 vP abB=some (r1,r2))∧aj (kq≤k)∧aj (Below w.heap.size w wc))
 case first =>
  have H:=HC3.out
  clear HC3
  by_cases c4:((l0.length:Int) % 2)=0
  ·rw [if_pos c4] at H
   have fB:(((l0.length:Int) % 2) == 0)=true:=beq_iff_eq.mpr c4
   have aaI:(((l0.length:Int) % 2) != 0)=false:=bne_eq_false_iff_eq.mpr c4
   clear c4
   (first|rw [fB]|(simp only [bY,dw];rw [fB])|skip)
   have H':=aj.mk H
   clear H
   go_wp2
   go_meet
   case rel=>exact ⟨_,(true),zT,H',⟨by first|omega|exact Nat.le_refl _⟩,⟨zB⟩⟩
  ·rw [if_neg c4] at H
   have fB:(((l0.length:Int) % 2) == 0)=false:=beq_eq_false_iff_ne.mpr c4
   have aaI:(((l0.length:Int) % 2) != 0)=true:=bne_iff_ne.mpr c4
   (first|rw [fB]|(simp only [bY,dw];rw [fB])|skip)
   by_cases c5:(l0.length:Int) > 1024
   ·rw [if_pos c5] at H
    have gQ:=decide_eq_true c5
    have acf:decide (1024 < l0.length)=true:=decide_eq_true (by omega)
    clear c5
    have H':=aj.mk H
    clear H
    go_wp2
    go_meet
    case rel=>exact ⟨_,(true),zT,H',⟨by first|omega|exact Nat.le_refl _⟩,⟨zB⟩⟩
   ·rw [if_neg c5] at H
    have gQ:=decide_eq_false c5
    have acf:decide (1024 < l0.length)=false:=decide_eq_false (by omega)
    clear c5
    by_cases c6:vP=0
    ·rw [if_pos c6] at H
     have iw:(vP == 0)=true:=beq_iff_eq.mpr c6
     have vI:(vP != 0)=false:=bne_eq_false_iff_eq.mpr c6
     clear c6
     have H':=aj.mk H
     clear H
     go_wp2
     go_meet
     case rel=>exact ⟨_,(true),zT,H',⟨by first|omega|exact Nat.le_refl _⟩,⟨zB⟩⟩
    ·rw [if_neg c6] at H
     have iw:(vP == 0)=false:=beq_eq_false_iff_ne.mpr c6
     have vI:(vP != 0)=true:=bne_iff_ne.mpr c6
     have H':=aj.mk H
     clear H
     go_wp2
     go_meet
     case rel=>exact ⟨_,(decide (vP > 1048576)),zT,H',⟨by first|omega|exact Nat.le_refl _⟩,⟨zB⟩⟩
 case rest =>
  clear HC3
  obtain ⟨kq,abB,rfl,HA,HJ2,HB⟩:=hcut
  cases kq with
  | zero=>exact absurd HA.out (by simp [bM.j0])
  | succ kj2 =>
   have H:=HA.out
   clear HA
   simp only [bM.j0] at H
   by_cases c7:abB=true
   ·subst c7
    rw [if_pos rfl] at H;try dsimp only at H
    simp only [Option.some.injEq,Prod.mk.injEq] at H
    obtain ⟨rfl,rfl⟩:=H
    go_wp2
    go_ret2
    exact ⟨_,zS,by first|exact Kd.jW _ _ _ _ _|exact Kd.qj _ _ _ _ _|exact Kd.oH _ _ _ _ _|exact Kd.qm _ _ _ _ _|exact Kd.pJ _ _ _ _ _,zB⟩
   ·replace c7:=Bool.eq_false_iff.mpr c7
    subst c7
    rw [if_neg (show ¬ (false=true) by decide)] at H;try dsimp only at H
    have H':=aj.mk H
    clear H
    go_wp2
    go_loopg [5,29] kj2 (fun kq v5 v29 w'=>∃ (mW:List Int) (mF:Int),v29 = .int .i64 mF∧aj (bM.l0 kq vP mW l0 (l0.length:Int) mF=some (r1,r2))∧aj (kq≤kj2)∧aj (Kd.R (Kd.int .i64) 2 w' w.heap.size (fun _=>True) v5 mW)∧aj (Below w.heap.size w w'))
    case atStart=>exact ⟨(([]:List Int)),(0),zT,H',⟨Nat.le_refl _⟩,⟨by first|exact Kd.jW _ _ _ _ _|exact Kd.qj _ _ _ _ _|exact Kd.oH _ _ _ _ _|exact Kd.qm _ _ _ _ _|exact Kd.pJ _ _ _ _ _⟩,⟨zB⟩⟩
    case round =>
     clear H'
     obtain ⟨mW,mF,rfl,HA,HK2,xA,HB⟩:=hrel
     cases gk with
     | zero=>exact absurd HA.out (by simp [bM.l0])
     | succ k2 =>
      have H:=HA.out
      clear HA
      simp only [bM.l0] at H
      by_cases c8:mF < (l0.length:Int)
      ·rw [if_pos c8] at H
       have um:=decide_eq_true c8
       clear c8
       by_cases c9:0≤mF
       ·rw [if_pos c9] at H
        have qA:=decide_eq_true c9
        clear c9
        by_cases c10:mF < (l0.length:Int)
        ·rw [if_pos c10] at H
         have pK:=decide_eq_true c10
         clear c10
         replace H:=zO H
         obtain ⟨aiM,A11,H⟩:=H
         try dsimp only at H
         by_cases c12:mW.length < 17592186044416
         ·rw [if_pos c12] at H
          have awW:=aj.mk c12
          clear c12
          obtain ⟨avl,ahO⟩:∃ y_:List Int,y_=(mW ++ [aiM]):=⟨_,rfl⟩
          replace H:(bM.l0 k2 vP avl l0 (l0.length:Int) (wrap64 (mF+1)))=some (r1,r2):=by first|(rw [ahO];with_reducible exact H)|(have H2_:=(Option.bind_some _ _).symm.trans H;rw [ahO];with_reducible exact H2_)|(have H2_:=(Option.bind_some _ _).symm.trans H;with_reducible exact H2_)|with_reducible exact H|(rw [ahO];exact H)|exact H
          have awX:=aj.mk ahO
          clear ahO
          have H':=aj.mk H
          clear H
          have arl:0≤(mF:Int):=of_decide_eq_true (by first|(with_reducible assumption)|assumption)
          have arn:mF < (l0.length:Int):=of_decide_eq_true (by first|(with_reducible assumption)|assumption)
          obtain ⟨aCy,ay4,aiN⟩:=Kd.iI HR0.out mF arl arn
          cases ay4
          replace aiN:=(HB.out.cell (World.block_lt_of_cell? w _ aiN)).trans aiN
          replace arl:=eq_true arl
          replace arn:=eq_true arn
          go_wp2_with (first|((with_reducible refine ay (f:=118) rfl ?_);refine aH (some 36) rfl rfl Tryz.func118 (by kernel_rfl) rfl #[.int .i64 (rd l0 mF),.int .i64 1073741824,.int .i64 vP] rfl zL ?_;(with_reducible refine (aX.calls k2 (rd l0 mF) 1073741824 vP aiM _ A11.out).mono ?_);rintro e w13 ⟨rfl,hb⟩;refine ⟨_,rfl,?_⟩;obtain ⟨xA,HB⟩:=zA2 (Kd.ji (by (with_reducible repeat (first|apply Kd.aK|apply Kd.aQ|apply Kd.aW));exact xA.out) hb) (ak zB hb);(try clear hb))|((with_reducible refine jP (b := .append) (xs := #[.tmp 33,.tmp 37]) rfl ?_);(try (refine kT (by rfl) ?_;dsimp only));at_builtin;refine Kd.kS (Kd.int .i64) (w0:=w) w.heap.size rfl (.tmp 33) (.tmp 37) 44 2 (.int .i64 0) 8 rfl Tryz.underlying44 wK rfl (by decide) (by omega) u5 mW aiM [.int .i64 aiM] (fun _=>True) (fun _=>False) rfl rfl ?aP (fun _ hk=>hk.elim) ?aF ?aO ?aB ?aS ?aL ?_;(case aP=>exact rfl);(case aB=>exact zB);(case aF=>exact (fun _ _=>trivial));(case aO=>exact (by (with_reducible repeat (first|apply Kd.aK|apply Kd.aQ|apply Kd.aW));exact xA.out));(case aS=>exact (bP zB));(case aL=>have:=awW.out;omega);intro aEd w14 ho hb hg hat;rw [← awX.out] at ho;obtain ⟨HB,awY⟩:=zA2 hb ho;clear ho hb hg hat))
          go_roundg k2
          case measure=>have:=HJ2.out;have:=HK2.out;omega
          case rel=>exact ⟨(avl),(wrap64 (mF+1)),zT,H',⟨by have:=HJ2.out;have:=HK2.out;omega⟩,⟨by (with_reducible repeat (first|apply Kd.aK|apply Kd.aQ|apply Kd.aW));exact awY.out⟩,⟨zB⟩⟩
         ·rw [if_neg c12] at H
          exact absurd H (by simp)
        ·rw [if_neg c10] at H
         exact absurd H (by simp)
       ·rw [if_neg c9] at H
        exact absurd H (by simp)
      ·rw [if_neg c8] at H
       have um:=decide_eq_false c8
       clear c8
       simp only [Option.some.injEq,Prod.mk.injEq] at H
       obtain ⟨rfl,rfl⟩:=H
       go_wp2
       go_ret2
       exact ⟨_,zS,by (with_reducible repeat (first|apply Kd.aK|apply Kd.aQ|apply Kd.aW));exact xA.out,zB⟩
end Go.Proofs.YtpondkggmcmpfaaGreatDoor.QA
