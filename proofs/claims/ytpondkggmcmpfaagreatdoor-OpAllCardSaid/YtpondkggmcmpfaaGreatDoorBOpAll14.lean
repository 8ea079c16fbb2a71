/- Joined by wip/tools/bundle.py out of: QAx35 QAx36 QAx37 QAx38 QAx39 QAx40. -/
import Derived.Test.YtpondkggmcmpfaaGreatDoorBOpAll0
import Derived.Test.YtpondkggmcmpfaaGreatDoorBOpAll1
import Derived.Test.YtpondkggmcmpfaaGreatDoorBOpAll7
import Derived.Test.YtpondkggmcmpfaaGreatDoorBOpAll12
import Derived.Test.YtpondkggmcmpfaaGreatDoorBOpAll13
namespace Go.Proofs.YtpondkggmcmpfaaGreatDoor.QA
open Go.Proofs.YtpondkggmcmpfaaGreatDoor.T
open Go.RowKit Go.Proofs.YtpondkggmcmpfaaGreatDoorW.PrintWords Go.Proofs.YtpondkggmcmpfaaGreatDoorW.PrintLast Go.Proofs.YtpondkggmcmpfaaGreatDoorW.PrintMore
attribute [local go_sem] dZ dS dU fK fM
set_option linter.unusedVariables false
set_option linter.unusedSimpArgs false
def dO.j0:Nat→Bool→Bool→Int→Int→Option (Int)
 | 0,_,_,_,_=>none
 | k+1,x7,x28,aly,alz=>if x28=true then ((gy.f aly alz 0 1).bind fun aqG=>((bT.f k aqG.1 aqG.2 x7).bind fun aj2=>(some aj2))) else ((bT.f k aly alz x7).bind fun aj3=>(some aj3))
def dO.f (k:Nat) (a0 a1:Int):Option (Int):=if a1=0 then (some 0) else ((dI.f a0).bind fun aee=>((dI.f a1).bind fun aef=>((eG.f k 0 aee aef).bind fun agz=>(if ((decide (a0 < 0)) != (decide (a1 < 0)))=true then (dO.j0 k ((decide (a0 < 0)) != (decide (a1 < 0))) (decide (agz.2.2 > 0)) agz.1 agz.2.1) else (dO.j0 k ((decide (a0 < 0)) != (decide (a1 < 0))) false agz.1 agz.2.1)))))
set_option maxHeartbeats 8000000 in
set_option maxRecDepth 100000 in
theorem dO.calls (k:Nat) (a0 a1 r:Int) (w:World) (h:dO.f k a0 a1=some r) :
  Calls Tryz.prog 144 #[.int .i64 a0,.int .i64 a1] w fun e w'=>e = .returned (.int .i64 r)∧Below w.heap.size w w':=by
 have xC:=Tryz.underlying179
 have HB:=aj.mk (Below.refl w.heap.size w)
 have H:=h
 clear h
 unfold dO.f at H
 by_cases c3:a1=0
 ·rw [if_pos c3] at H
  have fP:(a1 == 0)=true:=beq_iff_eq.mpr c3
  have xM:(a1 != 0)=false:=bne_eq_false_iff_eq.mpr c3
  clear c3
  obtain rfl:=Option.some.inj H
  go_enter Tryz.func144,Tryz.ntmps144
  go_wp2
  go_ret
  exact ⟨zS,zB⟩
 ·rw [if_neg c3] at H
  have fP:(a1 == 0)=false:=beq_eq_false_iff_ne.mpr c3
  have xM:(a1 != 0)=true:=bne_iff_ne.mpr c3
  replace H:=zO H
  obtain ⟨aee,A4,H⟩:=H
  try dsimp only at H
  replace H:=zO H
  obtain ⟨aef,A5,H⟩:=H
  try dsimp only at H
  replace H:=zO H
  obtain ⟨⟨uY,uZ,ao7⟩,A6,H⟩:=H
  try dsimp only at H
  rcases Bool.eq_false_or_eq_true ((decide (a0 < 0)) != (decide (a1 < 0))) with hsv|hsv
  ·have rX:((decide (a0 < 0)) != (decide (a1 < 0)))=true:=hsv
   have amy:((decide (a0 < 0)) == (decide (a1 < 0)))=false:=by simpa using hsv
   have HC7:=aj.mk H
   clear H
   go_enter Tryz.func144,Tryz.ntmps144
   go_upto_region 5 with (first|((with_reducible refine ay (f:=120) rfl ?_);refine aH (some 12) rfl rfl Tryz.func120 (by kernel_rfl) rfl #[.int .i64 a0] rfl zL ?_;(with_reducible refine (dI.calls a0 aee _ A4.out).mono ?_);rintro e w' ⟨rfl,⟨nd,rfl⟩⟩;refine ⟨_,rfl,?_⟩)|((with_reducible refine ay (f:=120) rfl ?_);refine aH (some 15) rfl rfl Tryz.func120 (by kernel_rfl) rfl #[.int .i64 a1] rfl zL ?_;(with_reducible refine (dI.calls a1 aef _ A5.out).mono ?_);rintro e w' ⟨rfl,⟨nd,rfl⟩⟩;refine ⟨_,rfl,?_⟩)|((with_reducible refine ay (f:=172) rfl ?_);refine aH (some 16) rfl rfl Tryz.func172 (by kernel_rfl) rfl #[.agg #[.int .u64 0,.int .u64 aee],.int .u64 aef] rfl zL ?_;(with_reducible refine (eG.calls k 0 aee aef uY uZ ao7 _ A6.out).mono ?_);rintro e w8 ⟨rfl,hb⟩;refine ⟨_,rfl,?_⟩;replace HB:=aj.mk (ak zB hb);(try clear hb))|((with_reducible refine bD (N:=5) rfl ?_);refine bC zR (N:=5) zR (cs := #[.int .u64 0,.int .u64 0]) (t:=179) zG ?_;intro agA hg w9 hbox hb;obtain ⟨HB,jU,auJ,auK⟩:=zA4 (ak zB hb) hbox (zg hg zB) (zg hg zB);clear hb hbox hg;obtain ⟨_,_⟩:=zC2 jU.out;obtain ⟨_,_⟩:=zF2 jU.out))
   (try simp only [Act.put,List.setIfInBounds_toArray,List.set_cons_zero,List.set_cons_succ])
   go_cut [28] (fun v28 wc=>∃ (kq:Nat) (aaU:Bool),v28 = .bool aaU∧aj (dO.j0 kq ((decide (a0 < 0)) != (decide (a1 < 0))) aaU uY uZ=some r)∧aj (kq≤k)∧aj (wc.heap[agA]? = some (.cells #[.int .u64 uY,.int .u64 uZ] 179 (0,0)))∧aj (Below w.heap.size w wc))
   case first =>
    have H:=HC7.out
    clear HC7
    by_cases c11:((decide (a0 < 0)) != (decide (a1 < 0)))=true
    ·rw [if_pos c11] at H
     have iH:((decide (a0 < 0)) != (decide (a1 < 0)))=true:=c11
     (try (have wF:decide ((decide (a0 < 0))=(decide (a1 < 0)))=false:=by simpa using c11))
     (try (have amA:((decide (a0 < 0)) == (decide (a1 < 0)))=false:=by simpa using c11))
     (try (have auL:¬ ((decide (a0 < 0))=(decide (a1 < 0))):=by simpa using c11))
     clear c11
     (first|rw [iH]|(simp only [bY,cZ];rw [iH])|skip)
     have H':=aj.mk H
     clear H
     go_wp2
     go_meet
     case rel=>exact ⟨_,(decide (ao7 > 0)),zT,H',⟨by first|omega|exact Nat.le_refl _⟩,⟨by refine zD ?_;refine aW (cs := #[.int .u64 uY,.int .u64 0]) ?_ 1 _ rfl;refine zD ?_;refine aW (cs := #[.int .u64 0,.int .u64 0]) ?_ 0 _ rfl;refine zD ?_;exact jU.out⟩,⟨zB⟩⟩
    ·rw [if_neg c11] at H
     have iH:((decide (a0 < 0)) != (decide (a1 < 0)))=false:=by simpa using c11
     exact absurd (rX.symm.trans iH) (by decide)
   case rest =>
    clear HC7
    obtain ⟨kq,aaU,rfl,HA,HJ6,jU,HB⟩:=hcut
    cases kq with
    | zero=>exact absurd HA.out (by simp [dO.j0])
    | succ kj6 =>
     have H:=HA.out
     clear HA
     simp only [dO.j0] at H
     by_cases c12:aaU=true
     ·subst c12
      rw [if_pos rfl] at H;try dsimp only at H
      replace H:=zO H
      obtain ⟨⟨abq,ac2⟩,A13,H⟩:=H
      try dsimp only at H
      replace H:=zO H
      obtain ⟨aj2,A14,H⟩:=H
      try dsimp only at H
      obtain rfl:=Option.some.inj H
      obtain ⟨_,_⟩:=zC2 jU.out
      obtain ⟨_,_⟩:=zF2 jU.out
      go_wp2_with (first|((with_reducible refine ay (f:=124) rfl ?_);refine aH (some 31) rfl rfl Tryz.func124 (by kernel_rfl) rfl #[.agg #[.int .u64 uY,.int .u64 uZ],.agg #[.int .u64 0,.int .u64 1]] rfl zL ?_;(with_reducible refine (gy.calls uY uZ 0 1 abq ac2 _ A13.out).mono ?_);rintro e w16 ⟨rfl,hb⟩;refine ⟨_,rfl,?_⟩;obtain ⟨jU,HB⟩:=zA2 (aA (zK jU) hb) (ak zB hb);(try clear hb);obtain ⟨_,_⟩:=zC2 jU.out;obtain ⟨_,_⟩:=zF2 jU.out)|((with_reducible refine ay (f:=125) rfl ?_);refine aH (some 34) rfl rfl Tryz.func125 (by kernel_rfl) rfl #[.agg #[.int .u64 abq,.int .u64 ac2],.bool true] rfl zL ?_;(with_reducible refine (bT.calls kj6 abq ac2 true aj2 _ (by have h:=A14.out;rw [rX] at h;exact h)).mono ?_);rintro e w18 ⟨rfl,hb⟩;refine ⟨_,rfl,?_⟩;obtain ⟨jU,HB⟩:=zA2 (aA (g:=agA) (o := .cells #[.int .u64 abq,.int .u64 ac2] 179 (0,0)) (by refine zD ?_;refine aW (cs := #[.int .u64 abq,.int .u64 uZ]) ?_ 1 _ rfl;refine zD ?_;refine aW (cs := #[.int .u64 uY,.int .u64 uZ]) ?_ 0 _ rfl;refine zD ?_;exact jU.out) hb) (ak zB hb);(try clear hb)))
      go_ret
      exact ⟨zS,zB⟩
     ·replace c12:=Bool.eq_false_iff.mpr c12
      subst c12
      rw [if_neg (show ¬ (false=true) by decide)] at H;try dsimp only at H
      replace H:=zO H
      obtain ⟨aj3,A19,H⟩:=H
      try dsimp only at H
      obtain rfl:=Option.some.inj H
      obtain ⟨_,_⟩:=zC2 jU.out
      obtain ⟨_,_⟩:=zF2 jU.out
      go_wp2_with (first|((with_reducible refine ay (f:=125) rfl ?_);refine aH (some 34) rfl rfl Tryz.func125 (by kernel_rfl) rfl #[.agg #[.int .u64 uY,.int .u64 uZ],.bool true] rfl zL ?_;(with_reducible refine (bT.calls kj6 uY uZ true aj3 _ (by have h:=A19.out;rw [rX] at h;exact h)).mono ?_);rintro e w21 ⟨rfl,hb⟩;refine ⟨_,rfl,?_⟩;obtain ⟨jU,HB⟩:=zA2 (aA (zK jU) hb) (ak zB hb);(try clear hb)))
      go_ret
      exact ⟨zS,zB⟩
  ·have rX:((decide (a0 < 0)) != (decide (a1 < 0)))=false:=hsv
   have amy:((decide (a0 < 0)) == (decide (a1 < 0)))=true:=by simpa using hsv
   have HC7:=aj.mk H
   clear H
   go_enter Tryz.func144,Tryz.ntmps144
   go_upto_region 5 with (first|((with_reducible refine ay (f:=120) rfl ?_);refine aH (some 12) rfl rfl Tryz.func120 (by kernel_rfl) rfl #[.int .i64 a0] rfl zL ?_;(with_reducible refine (dI.calls a0 aee _ A4.out).mono ?_);rintro e w' ⟨rfl,⟨nd,rfl⟩⟩;refine ⟨_,rfl,?_⟩)|((with_reducible refine ay (f:=120) rfl ?_);refine aH (some 15) rfl rfl Tryz.func120 (by kernel_rfl) rfl #[.int .i64 a1] rfl zL ?_;(with_reducible refine (dI.calls a1 aef _ A5.out).mono ?_);rintro e w' ⟨rfl,⟨nd,rfl⟩⟩;refine ⟨_,rfl,?_⟩)|((with_reducible refine ay (f:=172) rfl ?_);refine aH (some 16) rfl rfl Tryz.func172 (by kernel_rfl) rfl #[.agg #[.int .u64 0,.int .u64 aee],.int .u64 aef] rfl zL ?_;(with_reducible refine (eG.calls k 0 aee aef uY uZ ao7 _ A6.out).mono ?_);rintro e w8 ⟨rfl,hb⟩;refine ⟨_,rfl,?_⟩;replace HB:=aj.mk (ak zB hb);(try clear hb))|((with_reducible refine bD (N:=5) rfl ?_);refine bC zR (N:=5) zR (cs := #[.int .u64 0,.int .u64 0]) (t:=179) zG ?_;intro agA hg w9 hbox hb;obtain ⟨HB,jU,auJ,auK⟩:=zA4 (ak zB hb) hbox (zg hg zB) (zg hg zB);clear hb hbox hg;obtain ⟨_,_⟩:=zC2 jU.out;obtain ⟨_,_⟩:=zF2 jU.out))
   (try simp only [Act.put,List.setIfInBounds_toArray,List.set_cons_zero,List.set_cons_succ])
   go_cut [28] (fun v28 wc=>∃ (kq:Nat) (aaU:Bool),v28 = .bool aaU∧aj (dO.j0 kq ((decide (a0 < 0)) != (decide (a1 < 0))) aaU uY uZ=some r)∧aj (kq≤k)∧aj (wc.heap[agA]? = some (.cells #[.int .u64 uY,.int .u64 uZ] 179 (0,0)))∧aj (Below w.heap.size w wc))
   case first =>
    have H:=HC7.out
    clear HC7
    by_cases c11:((decide (a0 < 0)) != (decide (a1 < 0)))=true
    ·rw [if_pos c11] at H
     have iH:((decide (a0 < 0)) != (decide (a1 < 0)))=true:=c11
     exact absurd (rX.symm.trans iH) (by decide)
    ·rw [if_neg c11] at H
     have iH:((decide (a0 < 0)) != (decide (a1 < 0)))=false:=by simpa using c11
     (try (have wF:decide ((decide (a0 < 0))=(decide (a1 < 0)))=true:=by simpa using c11))
     (try (have amA:((decide (a0 < 0)) == (decide (a1 < 0)))=true:=by simpa using c11))
     clear c11
     (first|rw [iH]|(simp only [bY,cZ];rw [iH])|skip)
     have H':=aj.mk H
     clear H
     go_wp2
     go_meet
     case rel=>exact ⟨_,(false),zT,H',⟨by first|omega|exact Nat.le_refl _⟩,⟨by refine zD ?_;refine aW (cs := #[.int .u64 uY,.int .u64 0]) ?_ 1 _ rfl;refine zD ?_;refine aW (cs := #[.int .u64 0,.int .u64 0]) ?_ 0 _ rfl;refine zD ?_;exact jU.out⟩,⟨zB⟩⟩
   case rest =>
    clear HC7
    obtain ⟨kq,aaU,rfl,HA,HJ6,jU,HB⟩:=hcut
    cases kq with
    | zero=>exact absurd HA.out (by simp [dO.j0])
    | succ kj6 =>
     have H:=HA.out
     clear HA
     simp only [dO.j0] at H
     by_cases c12:aaU=true
     ·subst c12
      rw [if_pos rfl] at H;try dsimp only at H
      replace H:=zO H
      obtain ⟨⟨abq,ac2⟩,A13,H⟩:=H
      try dsimp only at H
      replace H:=zO H
      obtain ⟨aj2,A14,H⟩:=H
      try dsimp only at H
      obtain rfl:=Option.some.inj H
      obtain ⟨_,_⟩:=zC2 jU.out
      obtain ⟨_,_⟩:=zF2 jU.out
      go_wp2_with (first|((with_reducible refine ay (f:=124) rfl ?_);refine aH (some 31) rfl rfl Tryz.func124 (by kernel_rfl) rfl #[.agg #[.int .u64 uY,.int .u64 uZ],.agg #[.int .u64 0,.int .u64 1]] rfl zL ?_;(with_reducible refine (gy.calls uY uZ 0 1 abq ac2 _ A13.out).mono ?_);rintro e w16 ⟨rfl,hb⟩;refine ⟨_,rfl,?_⟩;obtain ⟨jU,HB⟩:=zA2 (aA (zK jU) hb) (ak zB hb);(try clear hb);obtain ⟨_,_⟩:=zC2 jU.out;obtain ⟨_,_⟩:=zF2 jU.out)|((with_reducible refine ay (f:=125) rfl ?_);refine aH (some 34) rfl rfl Tryz.func125 (by kernel_rfl) rfl #[.agg #[.int .u64 abq,.int .u64 ac2],.bool false] rfl zL ?_;(with_reducible refine (bT.calls kj6 abq ac2 false aj2 _ (by have h:=A14.out;rw [rX] at h;exact h)).mono ?_);rintro e w18 ⟨rfl,hb⟩;refine ⟨_,rfl,?_⟩;obtain ⟨jU,HB⟩:=zA2 (aA (g:=agA) (o := .cells #[.int .u64 abq,.int .u64 ac2] 179 (0,0)) (by refine zD ?_;refine aW (cs := #[.int .u64 abq,.int .u64 uZ]) ?_ 1 _ rfl;refine zD ?_;refine aW (cs := #[.int .u64 uY,.int .u64 uZ]) ?_ 0 _ rfl;refine zD ?_;exact jU.out) hb) (ak zB hb);(try clear hb)))
      go_ret
      exact ⟨zS,zB⟩
     ·replace c12:=Bool.eq_false_iff.mpr c12
      subst c12
      rw [if_neg (show ¬ (false=true) by decide)] at H;try dsimp only at H
      replace H:=zO H
      obtain ⟨aj3,A19,H⟩:=H
      try dsimp only at H
      obtain rfl:=Option.some.inj H
      obtain ⟨_,_⟩:=zC2 jU.out
      obtain ⟨_,_⟩:=zF2 jU.out
      go_wp2_with (first|((with_reducible refine ay (f:=125) rfl ?_);refine aH (some 34) rfl rfl Tryz.func125 (by kernel_rfl) rfl #[.agg #[.int .u64 uY,.int .u64 uZ],.bool false] rfl zL ?_;(with_reducible refine (bT.calls kj6 uY uZ false aj3 _ (by have h:=A19.out;rw [rX] at h;exact h)).mono ?_);rintro e w21 ⟨rfl,hb⟩;refine ⟨_,rfl,?_⟩;obtain ⟨jU,HB⟩:=zA2 (aA (zK jU) hb) (ak zB hb);(try clear hb)))
      go_ret
      exact ⟨zS,zB⟩
end Go.Proofs.YtpondkggmcmpfaaGreatDoor.QA
namespace Go.Proofs.YtpondkggmcmpfaaGreatDoor.QA
open Go.Proofs.YtpondkggmcmpfaaGreatDoor.T
open Go.RowKit Go.Proofs.YtpondkggmcmpfaaGreatDoorW.PrintWords Go.Proofs.YtpondkggmcmpfaaGreatDoorW.PrintLast Go.Proofs.YtpondkggmcmpfaaGreatDoorW.PrintMore
attribute [local go_sem] dZ dS dU fK fM
set_option linter.unusedVariables false
set_option linter.unusedSimpArgs false
mutual
def aG.j0:Nat→List Int→Bool→Option (List Int × Int)
 | 0,_,_=>none
 | k+1,x0,x22=>if x22=true then (some (([]:List Int),7)) else (aG.l0 k x0 x0 (x0.length:Int) 0)
def aG.l0:Nat→List Int→List Int→Int→Int→Option (List Int × Int)
 | 0,_,_,_,_=>none
 | k+1,x0,x23,x24,x25=>if x25 < x24 then (if 0≤x25 then (if x25 < (x23.length:Int) then ((iF.f (rd x23 x25)).bind fun ac3=>(if ac3 > 1099511627776 then (some (([]:List Int),7)) else (aG.l0 k x0 x23 x24 (wrap64 (x25+1))))) else (none)) else (none)) else ((dY.f k x0).bind fun qw=>(if qw < 268435456 then (some (([]:List Int),8)) else (aG.l1 k qw ([]:List Int) ([]:List Int) 16384 x0 (x0.length:Int) 0)))
def aG.l1:Nat→Int→List Int→List Int→Int→List Int→Int→Int→Option (List Int × Int)
 | 0,_,_,_,_,_,_,_=>none
 | k+1,x6,x7,x8,x9,x37,x38,x39=>if x39 < x38 then (if 0≤x39 then (if x39 < (x37.length:Int) then ((dO.f k (wrap64 ((rd x37 x39)*16384)) x6).bind fun qg=>(if x7.length < 17592186044416 then (if x8.length < 17592186044416 then (aG.l1 k x6 (x7 ++ [qg]) (x8 ++ [wrap64 ((wrap64 ((rd x37 x39)*16384)) - (wrap64 (qg*x6)))]) (wrap64 (x9 - qg)) x37 x38 (wrap64 (x39+1))) else (none)) else (none))) else (none)) else (none)) else (aG.l2 k x7 x8 x9)
def aG.l2:Nat→List Int→List Int→Int→Option (List Int × Int)
 | 0,_,_,_=>none
 | k+1,x7,x8,x9=>if x9 > 0 then (aG.l3 k x7 x8 x9 0 (x8.length:Int) 0) else (some (x7,0))
def aG.l3:Nat→List Int→List Int→Int→Int→Int→Int→Option (List Int × Int)
 | 0,_,_,_,_,_,_=>none
 | k+1,x7,x8,x9,x13,x67,x68=>if x68 < x67 then (if 0≤x68 then (if x68 < (x8.length:Int) then (if 0≤x13 then (if x13 < (x8.length:Int) then (if (rd x8 x68) > (rd x8 x13) then (aG.l3 k x7 x8 x9 x68 x67 (wrap64 (x68+1))) else (aG.l3 k x7 x8 x9 x13 x67 (wrap64 (x68+1)))) else (none)) else (none)) else (none)) else (none)) else (if 0≤x13 then (if x13 < (x7.length:Int) then (if x13 < (x8.length:Int) then (aG.l2 k (x7.set (x13:Int).toNat (wrap64 ((rd x7 x13)+1))) (x8.set (x13:Int).toNat (-1)) (wrap64 (x9 - 1))) else (none)) else (none)) else (none))
end
def aG.f (k:Nat) (l0:List Int):Option (List Int × Int):=if (l0.length:Int) < 1 then (aG.j0 k l0 true) else (aG.j0 k l0 (decide ((l0.length:Int) > 1048576)))
set_option maxHeartbeats 8000000 in
set_option maxRecDepth 100000 in
theorem aG.calls (k:Nat) (A0:Option Addr) (c0:Nat) (l0 r1:List Int) (r2:Int) (w:World) (hr0:Kd.C (Kd.int .i64) w A0 l0.length l0) (hc0:l0.length≤c0) (h:aG.f k l0=some (r1,r2)) :
  Calls Tryz.prog 115 #[.slice A0 l0.length c0] w fun e w'=>∃ v0_:Value,e = .returned (.tuple #[v0_,.int .i64 r2])∧Kd.R (Kd.int .i64) 2 w' w.heap.size (fun _=>True) v0_ r1∧Below w.heap.size w w':=by
 have HR0:=aj.mk hr0
 have HC0:=aj.mk hc0
 clear hr0 hc0
 have HB:=aj.mk (Below.refl w.heap.size w)
 have H:=h
 clear h
 unfold aG.f at H
 have HC2:=aj.mk H
 clear H
 go_enter Tryz.func115,Tryz.ntmps115
 go_upto_region 1 with (fail)
 repeat (go_quiet (fail);go_upto_region 1 with (fail))
 go_cut [22] (fun v22 wc=>∃ (kq:Nat) (ai6:Bool),v22 = .bool ai6∧aj (aG.j0 kq l0 ai6=some (r1,r2))∧aj (kq≤k)∧aj (Below w.heap.size w wc))
 case first =>
  have H:=HC2.out
  clear HC2
  by_cases c3:(l0.length:Int) < 1
  ·rw [if_pos c3] at H
   have fP:=decide_eq_true c3
   have xM:decide (l0.length < 1)=true:=decide_eq_true (by omega)
   clear c3
   (first|rw [fP]|(simp only [bY,cZ];rw [fP])|skip)
   have H':=aj.mk H
   clear H
   go_wp2
   repeat (go_quiet (fail);try go_wp2)
   go_meet
   case rel=>exact ⟨_,(true),zT,H',⟨by first|omega|exact Nat.le_refl _⟩,⟨zB⟩⟩
  ·rw [if_neg c3] at H
   have fP:=decide_eq_false c3
   have xM:decide (l0.length < 1)=false:=decide_eq_false (by omega)
   clear c3
   (first|rw [fP]|(simp only [bY,cZ];rw [fP])|skip)
   have H':=aj.mk H
   clear H
   go_wp2
   repeat (go_quiet (fail);try go_wp2)
   go_meet
   case rel=>exact ⟨_,(decide ((l0.length:Int) > 1048576)),zT,H',⟨by first|omega|exact Nat.le_refl _⟩,⟨zB⟩⟩
 case rest =>
  clear HC2
  obtain ⟨kq,ai6,rfl,HA,HJ1,HB⟩:=hcut
  cases kq with
  | zero=>exact absurd HA.out (by simp [aG.j0])
  | succ kj1 =>
   have H:=HA.out
   clear HA
   simp only [aG.j0] at H
   by_cases c4:ai6=true
   ·subst c4
    rw [if_pos rfl] at H;try dsimp only at H
    simp only [Option.some.injEq,Prod.mk.injEq] at H
    obtain ⟨rfl,rfl⟩:=H
    go_wp2
    repeat (go_quiet (fail);try go_wp2)
    go_ret2
    exact ⟨_,zS,by first|exact Kd.jR _ _ _ _ _|exact Kd.oW _ _ _ _ _|exact Kd.nP _ _ _ _ _|exact Kd.oZ _ _ _ _ _|exact Kd.oL _ _ _ _ _,zB⟩
   ·replace c4:=Bool.eq_false_iff.mpr c4
    subst c4
    rw [if_neg (show ¬ (false=true) by decide)] at H;try dsimp only at H
    have H':=aj.mk H
    clear H
    go_wp2
    repeat (go_quiet (fail);try go_wp2)
    go_loopg [25] kj1 (fun kq v25 w'=>∃ (qy:Int),v25 = .int .i64 qy∧aj (aG.l0 kq l0 l0 (l0.length:Int) qy=some (r1,r2))∧aj (kq≤kj1)∧aj (Below w.heap.size w w'))
    case atStart=>exact ⟨(0),zT,H',⟨Nat.le_refl _⟩,⟨zB⟩⟩
    case round =>
     clear H'
     obtain ⟨qy,rfl,HA,HK2,HB⟩:=hrel
     cases gk with
     | zero=>exact absurd HA.out (by simp [aG.l0])
     | succ k2 =>
      have H:=HA.out
      clear HA
      simp only [aG.l0] at H
      by_cases c5:qy < (l0.length:Int)
      ·rw [if_pos c5] at H
       have iw:=decide_eq_true c5
       clear c5
       by_cases c6:0≤qy
       ·rw [if_pos c6] at H
        have gQ:=decide_eq_true c6
        clear c6
        by_cases c7:qy < (l0.length:Int)
        ·rw [if_pos c7] at H
         have jc:=decide_eq_true c7
         clear c7
         replace H:=zO H
         obtain ⟨ac3,A8,H⟩:=H
         try dsimp only at H
         by_cases c9:ac3 > 1099511627776
         ·rw [if_pos c9] at H
          have pz:=decide_eq_true c9
          clear c9
          simp only [Option.some.injEq,Prod.mk.injEq] at H
          obtain ⟨rfl,rfl⟩:=H
          have afD:0≤(qy:Int):=of_decide_eq_true (by first|(with_reducible assumption)|assumption)
          have afE:qy < (l0.length:Int):=of_decide_eq_true (by first|(with_reducible assumption)|assumption)
          obtain ⟨auM,ao8,zX⟩:=Kd.jF HR0.out qy afD afE
          cases ao8
          replace zX:=(HB.out.cell (World.block_lt_of_cell? w _ zX)).trans zX
          replace afD:=eq_true afD
          replace afE:=eq_true afE
          go_wp2_with (first|(go_at_call 142;(with_reducible refine (iF.calls (rd l0 qy) ac3 _ A8.out).mono ?_);rintro e w' ⟨rfl,⟨nd,rfl⟩⟩;(try exact ⟨rfl,_,zN⟩)))
          repeat (go_quiet (first|(go_at_call 142;(with_reducible refine (iF.calls (rd l0 qy) ac3 _ A8.out).mono ?_);rintro e w' ⟨rfl,⟨nd,rfl⟩⟩;(try exact ⟨rfl,_,zN⟩)));try go_wp2_with (first|(go_at_call 142;(with_reducible refine (iF.calls (rd l0 qy) ac3 _ A8.out).mono ?_);rintro e w' ⟨rfl,⟨nd,rfl⟩⟩;(try exact ⟨rfl,_,zN⟩))))
          go_ret2
          exact ⟨_,zS,by first|exact Kd.jR _ _ _ _ _|exact Kd.oW _ _ _ _ _|exact Kd.nP _ _ _ _ _|exact Kd.oZ _ _ _ _ _|exact Kd.oL _ _ _ _ _,zB⟩
         ·rw [if_neg c9] at H
          have pz:=decide_eq_false c9
          clear c9
          have H':=aj.mk H
          clear H
          have afD:0≤(qy:Int):=of_decide_eq_true (by first|(with_reducible assumption)|assumption)
          have afE:qy < (l0.length:Int):=of_decide_eq_true (by first|(with_reducible assumption)|assumption)
          obtain ⟨auM,ao8,zX⟩:=Kd.jF HR0.out qy afD afE
          cases ao8
          replace zX:=(HB.out.cell (World.block_lt_of_cell? w _ zX)).trans zX
          replace afD:=eq_true afD
          replace afE:=eq_true afE
          go_wp2_with (first|(go_at_call 142;(with_reducible refine (iF.calls (rd l0 qy) ac3 _ A8.out).mono ?_);rintro e w' ⟨rfl,⟨nd,rfl⟩⟩;(try exact ⟨rfl,_,zN⟩)))
          repeat (go_quiet (first|(go_at_call 142;(with_reducible refine (iF.calls (rd l0 qy) ac3 _ A8.out).mono ?_);rintro e w' ⟨rfl,⟨nd,rfl⟩⟩;(try exact ⟨rfl,_,zN⟩)));try go_wp2_with (first|(go_at_call 142;(with_reducible refine (iF.calls (rd l0 qy) ac3 _ A8.out).mono ?_);rintro e w' ⟨rfl,⟨nd,rfl⟩⟩;(try exact ⟨rfl,_,zN⟩))))
          go_roundg k2
          case measure=>have:=HJ1.out;have:=HK2.out;omega
          case rel=>exact ⟨(wrap64 (qy+1)),zT,H',⟨by have:=HJ1.out;have:=HK2.out;omega⟩,⟨zB⟩⟩
        ·rw [if_neg c7] at H
         exact absurd H (by simp)
       ·rw [if_neg c6] at H
        exact absurd H (by simp)
      ·rw [if_neg c5] at H
       have iw:=decide_eq_false c5
       clear c5
       replace H:=zO H
       obtain ⟨qw,A10,H⟩:=H
       try dsimp only at H
       by_cases c11:qw < 268435456
       ·rw [if_pos c11] at H
        have iH:=decide_eq_true c11
        clear c11
        simp only [Option.some.injEq,Prod.mk.injEq] at H
        obtain ⟨rfl,rfl⟩:=H
        go_wp2_with (first|(go_at_call 143;(with_reducible refine (dY.calls k2 _ _ l0 qw _ ?iI ?iJ A10.out).mono ?_);(case iI=>repeat (first|exact (Kd.bI HR0.out HB.out)|(with_reducible refine Kd.jh ?_ _)|(with_reducible refine Kd.jE ?_ _)|(with_reducible refine Kd.kN ?_)));(case iJ=>exact HC0.out);rintro e w' ⟨rfl,⟨nd,rfl⟩⟩;(try exact ⟨rfl,_,zN⟩)))
        repeat (go_quiet (first|(go_at_call 143;(with_reducible refine (dY.calls k2 _ _ l0 qw _ ?iI ?iJ A10.out).mono ?_);(case iI=>repeat (first|exact (Kd.bI HR0.out HB.out)|(with_reducible refine Kd.jh ?_ _)|(with_reducible refine Kd.jE ?_ _)|(with_reducible refine Kd.kN ?_)));(case iJ=>exact HC0.out);rintro e w' ⟨rfl,⟨nd,rfl⟩⟩;(try exact ⟨rfl,_,zN⟩)));try go_wp2_with (first|(go_at_call 143;(with_reducible refine (dY.calls k2 _ _ l0 qw _ ?iI ?iJ A10.out).mono ?_);(case iI=>repeat (first|exact (Kd.bI HR0.out HB.out)|(with_reducible refine Kd.jh ?_ _)|(with_reducible refine Kd.jE ?_ _)|(with_reducible refine Kd.kN ?_)));(case iJ=>exact HC0.out);rintro e w' ⟨rfl,⟨nd,rfl⟩⟩;(try exact ⟨rfl,_,zN⟩))))
        go_ret2
        exact ⟨_,zS,by first|exact Kd.jR _ _ _ _ _|exact Kd.oW _ _ _ _ _|exact Kd.nP _ _ _ _ _|exact Kd.oZ _ _ _ _ _|exact Kd.oL _ _ _ _ _,zB⟩
       ·rw [if_neg c11] at H
        have iH:=decide_eq_false c11
        clear c11
        have H':=aj.mk H
        clear H
        go_wp2_with (first|(go_at_call 143;(with_reducible refine (dY.calls k2 _ _ l0 qw _ ?iI ?iJ A10.out).mono ?_);(case iI=>repeat (first|exact (Kd.bI HR0.out HB.out)|(with_reducible refine Kd.jh ?_ _)|(with_reducible refine Kd.jE ?_ _)|(with_reducible refine Kd.kN ?_)));(case iJ=>exact HC0.out);rintro e w' ⟨rfl,⟨nd,rfl⟩⟩;(try exact ⟨rfl,_,zN⟩)))
        repeat (go_quiet (first|(go_at_call 143;(with_reducible refine (dY.calls k2 _ _ l0 qw _ ?iI ?iJ A10.out).mono ?_);(case iI=>repeat (first|exact (Kd.bI HR0.out HB.out)|(with_reducible refine Kd.jh ?_ _)|(with_reducible refine Kd.jE ?_ _)|(with_reducible refine Kd.kN ?_)));(case iJ=>exact HC0.out);rintro e w' ⟨rfl,⟨nd,rfl⟩⟩;(try exact ⟨rfl,_,zN⟩)));try go_wp2_with (first|(go_at_call 143;(with_reducible refine (dY.calls k2 _ _ l0 qw _ ?iI ?iJ A10.out).mono ?_);(case iI=>repeat (first|exact (Kd.bI HR0.out HB.out)|(with_reducible refine Kd.jh ?_ _)|(with_reducible refine Kd.jE ?_ _)|(with_reducible refine Kd.kN ?_)));(case iJ=>exact HC0.out);rintro e w' ⟨rfl,⟨nd,rfl⟩⟩;(try exact ⟨rfl,_,zN⟩))))
        try simp only [Act.put,List.setIfInBounds_toArray,List.set_cons_succ,List.set_cons_zero]
        go_loopg [7,8,9,39] k2 (fun kq v7 v8 v9 v39 w'=>∃ (yO:List Int) (abr:List Int) (afF:Int) (ou:Int),v9 = .int .i64 afF∧v39 = .int .i64 ou∧aj (aG.l1 kq qw yO abr afF l0 (l0.length:Int) ou=some (r1,r2))∧aj (kq≤k2)∧aj (Kd.R (Kd.int .i64) 2 w' w.heap.size (fun k_=>some k_≠(v8:Value).ownBlock) v7 yO)∧aj (Kd.R (Kd.int .i64) 2 w' w.heap.size (fun k_=>some k_≠(v7:Value).ownBlock) v8 abr)∧aj (Below w.heap.size w w'))
        case atStart=>exact ⟨(([]:List Int)),(([]:List Int)),(16384),(0),zT,zT,H',⟨Nat.le_refl _⟩,⟨by first|exact Kd.jR _ _ _ _ _|exact Kd.oW _ _ _ _ _|exact Kd.nP _ _ _ _ _|exact Kd.oZ _ _ _ _ _|exact Kd.oL _ _ _ _ _⟩,⟨by first|exact Kd.jR _ _ _ _ _|exact Kd.oW _ _ _ _ _|exact Kd.nP _ _ _ _ _|exact Kd.oZ _ _ _ _ _|exact Kd.oL _ _ _ _ _⟩,⟨zB⟩⟩
        case round =>
         clear H'
         try clear hx3
         obtain ⟨yO,abr,afF,ou,rfl,rfl,HA,HK3,jq,dK,HB⟩:=hrel
         cases gk with
         | zero=>exact absurd HA.out (by simp [aG.l1])
         | succ k3 =>
          have H:=HA.out
          clear HA
          simp only [aG.l1] at H
          by_cases c12:ou < (l0.length:Int)
          ·rw [if_pos c12] at H
           have aal:=decide_eq_true c12
           clear c12
           by_cases c13:0≤ou
           ·rw [if_pos c13] at H
            have abV:=decide_eq_true c13
            clear c13
            by_cases c14:ou < (l0.length:Int)
            ·rw [if_pos c14] at H
             have abO:=decide_eq_true c14
             clear c14
             replace H:=zO H
             obtain ⟨qg,A15,H⟩:=H
             try dsimp only at H
             by_cases c16:yO.length < 17592186044416
             ·rw [if_pos c16] at H
              have amB:=aj.mk c16
              clear c16
              obtain ⟨ao9,agB⟩:∃ y_:List Int,y_=(yO ++ [qg]):=⟨_,rfl⟩
              replace H:(if abr.length < 17592186044416 then (aG.l1 k3 qw ao9 (abr ++ [wrap64 ((wrap64 ((rd l0 ou)*16384)) - (wrap64 (qg*qw)))]) (wrap64 (afF - qg)) l0 (l0.length:Int) (wrap64 (ou+1))) else (none))=some (r1,r2):=by first|(rw [agB];with_reducible exact H)|(have H2_:=(Option.bind_some _ _).symm.trans H;rw [agB];with_reducible exact H2_)|(have H2_:=(Option.bind_some _ _).symm.trans H;with_reducible exact H2_)|with_reducible exact H|(rw [agB];exact H)|exact H
              have amC:=aj.mk agB
              clear agB
              by_cases c17:abr.length < 17592186044416
              ·rw [if_pos c17] at H
               have amD:=aj.mk c17
               clear c17
               obtain ⟨asD,agC⟩:∃ y_:List Int,y_=(abr ++ [wrap64 ((wrap64 ((rd l0 ou)*16384)) - (wrap64 (qg*qw)))]):=⟨_,rfl⟩
               replace H:(aG.l1 k3 qw ao9 asD (wrap64 (afF - qg)) l0 (l0.length:Int) (wrap64 (ou+1)))=some (r1,r2):=by first|(rw [agC];with_reducible exact H)|(have H2_:=(Option.bind_some _ _).symm.trans H;rw [agC];with_reducible exact H2_)|(have H2_:=(Option.bind_some _ _).symm.trans H;with_reducible exact H2_)|with_reducible exact H|(rw [agC];exact H)|exact H
               have amE:=aj.mk agC
               clear agC
               have H':=aj.mk H
               clear H
               have apa:0≤(ou:Int):=of_decide_eq_true (by first|(with_reducible assumption)|assumption)
               have apb:ou < (l0.length:Int):=of_decide_eq_true (by first|(with_reducible assumption)|assumption)
               obtain ⟨az1,avG,ahx⟩:=Kd.jF HR0.out ou apa apb
               cases avG
               replace ahx:=(HB.out.cell (World.block_lt_of_cell? w _ ahx)).trans ahx
               replace apa:=eq_true apa
               replace apb:=eq_true apb
               go_wp2_with (first|(go_at_call 144;(with_reducible refine (dO.calls k3 (wrap64 ((rd l0 ou)*16384)) qw qg _ A15.out).mono ?_);rintro e w18 ⟨rfl,hb⟩;obtain ⟨jq,dK,HB⟩:=zA3 (Kd.jA (by (with_reducible repeat (first|apply Kd.aJ|apply Kd.aK|apply Kd.aU));exact jq.out) hb) (Kd.jA (by (with_reducible repeat (first|apply Kd.aJ|apply Kd.aK|apply Kd.aU));exact dK.out) hb) (ak zB hb);(try clear hb))|((with_reducible refine jG (b := .append) (xs := #[.tmp 47,.tmp 49]) rfl ?_);(try (refine kK (by rfl) ?_;dsimp only));at_builtin;refine Kd.kJ (Kd.int .i64) (w0:=w) w.heap.size rfl (.tmp 47) (.tmp 49) 44 2 (.int .i64 0) 8 rfl Tryz.underlying44 vC rfl (by decide) (by omega) u7 yO qg [.int .i64 qg] (fun k_=>some k_≠(u8:Value).ownBlock) (fun _=>False) rfl rfl ?aP (fun _ hk=>hk.elim) ?aF ?aO ?aB ?aS ?aL ?_;(case aP=>exact rfl);(case aB=>exact zB);(case aF=>exact (fun k_ hk=>Kd.fresh' (Kd.lD (by (with_reducible repeat (first|apply Kd.aJ|apply Kd.aK|apply Kd.aU));exact dK.out)) k_ hk));(case aO=>exact (by (with_reducible repeat (first|apply Kd.aJ|apply Kd.aK|apply Kd.aU));exact jq.out));(case aS=>exact (bJ zB));(case aL=>have:=amB.out;omega);intro aj6 w19 ho hb hg hat;rw [← amC.out] at ho;obtain ⟨dK,HB,xG⟩:=zA3 (Kd.ru (ok:=(fun _=>True)) (by (with_reducible repeat (first|apply Kd.aJ|apply Kd.aK|apply Kd.aU));exact Kd.dN dK.out (fun _ hk=>⟨trivial,hk⟩)) hg hat) hb ho;clear ho hb hg hat)|((with_reducible refine jG (b := .append) (xs := #[.tmp 51,.tmp 58]) rfl ?_);(try (refine kK (by rfl) ?_;dsimp only));at_builtin;refine Kd.kJ (Kd.int .i64) (w0:=w) w.heap.size rfl (.tmp 51) (.tmp 58) 44 2 (.int .i64 0) 8 rfl Tryz.underlying44 vC rfl (by decide) (by omega) u8 abr (wrap64 ((wrap64 ((rd l0 ou)*16384)) - (wrap64 (qg*qw)))) [.int .i64 (wrap64 ((wrap64 ((rd l0 ou)*16384)) - (wrap64 (qg*qw))))] (fun k_=>some k_≠(aj6:Value).ownBlock) (fun _=>False) rfl rfl ?aP (fun _ hk=>hk.elim) ?aF ?aO ?aB ?aS ?aL ?_;(case aP=>exact rfl);(case aB=>exact zB);(case aF=>exact (fun k_ hk=>Kd.fresh' (Kd.lD (by (with_reducible repeat (first|apply Kd.aJ|apply Kd.aK|apply Kd.aU));exact xG.out)) k_ hk));(case aO=>exact (by (with_reducible repeat (first|apply Kd.aJ|apply Kd.aK|apply Kd.aU));exact Kd.dN dK.out (fun _ hk=>hk.2)));(case aS=>exact (bJ zB));(case aL=>have:=amD.out;omega);intro asE w20 ho hb hg hat;rw [← amE.out] at ho;obtain ⟨xG,HB,amF⟩:=zA3 (Kd.ru (ok:=(fun _=>True)) (by (with_reducible repeat (first|apply Kd.aJ|apply Kd.aK|apply Kd.aU));exact Kd.dN xG.out (fun _ hk=>⟨trivial,hk⟩)) hg hat) hb ho;clear ho hb hg hat))
               repeat (go_quiet (first|(go_at_call 144;(with_reducible refine (dO.calls k3 (wrap64 ((rd l0 ou)*16384)) qw qg _ A15.out).mono ?_);rintro e w18 ⟨rfl,hb⟩;obtain ⟨jq,dK,HB⟩:=zA3 (Kd.jA (by (with_reducible repeat (first|apply Kd.aJ|apply Kd.aK|apply Kd.aU));exact jq.out) hb) (Kd.jA (by (with_reducible repeat (first|apply Kd.aJ|apply Kd.aK|apply Kd.aU));exact dK.out) hb) (ak zB hb);(try clear hb))|((with_reducible refine jG (b := .append) (xs := #[.tmp 47,.tmp 49]) rfl ?_);(try (refine kK (by rfl) ?_;dsimp only));at_builtin;refine Kd.kJ (Kd.int .i64) (w0:=w) w.heap.size rfl (.tmp 47) (.tmp 49) 44 2 (.int .i64 0) 8 rfl Tryz.underlying44 vC rfl (by decide) (by omega) u7 yO qg [.int .i64 qg] (fun k_=>some k_≠(u8:Value).ownBlock) (fun _=>False) rfl rfl ?aP (fun _ hk=>hk.elim) ?aF ?aO ?aB ?aS ?aL ?_;(case aP=>exact rfl);(case aB=>exact zB);(case aF=>exact (fun k_ hk=>Kd.fresh' (Kd.lD (by (with_reducible repeat (first|apply Kd.aJ|apply Kd.aK|apply Kd.aU));exact dK.out)) k_ hk));(case aO=>exact (by (with_reducible repeat (first|apply Kd.aJ|apply Kd.aK|apply Kd.aU));exact jq.out));(case aS=>exact (bJ zB));(case aL=>have:=amB.out;omega);intro aj6 w19 ho hb hg hat;rw [← amC.out] at ho;obtain ⟨dK,HB,xG⟩:=zA3 (Kd.ru (ok:=(fun _=>True)) (by (with_reducible repeat (first|apply Kd.aJ|apply Kd.aK|apply Kd.aU));exact Kd.dN dK.out (fun _ hk=>⟨trivial,hk⟩)) hg hat) hb ho;clear ho hb hg hat)|((with_reducible refine jG (b := .append) (xs := #[.tmp 51,.tmp 58]) rfl ?_);(try (refine kK (by rfl) ?_;dsimp only));at_builtin;refine Kd.kJ (Kd.int .i64) (w0:=w) w.heap.size rfl (.tmp 51) (.tmp 58) 44 2 (.int .i64 0) 8 rfl Tryz.underlying44 vC rfl (by decide) (by omega) u8 abr (wrap64 ((wrap64 ((rd l0 ou)*16384)) - (wrap64 (qg*qw)))) [.int .i64 (wrap64 ((wrap64 ((rd l0 ou)*16384)) - (wrap64 (qg*qw))))] (fun k_=>some k_≠(aj6:Value).ownBlock) (fun _=>False) rfl rfl ?aP (fun _ hk=>hk.elim) ?aF ?aO ?aB ?aS ?aL ?_;(case aP=>exact rfl);(case aB=>exact zB);(case aF=>exact (fun k_ hk=>Kd.fresh' (Kd.lD (by (with_reducible repeat (first|apply Kd.aJ|apply Kd.aK|apply Kd.aU));exact xG.out)) k_ hk));(case aO=>exact (by (with_reducible repeat (first|apply Kd.aJ|apply Kd.aK|apply Kd.aU));exact Kd.dN dK.out (fun _ hk=>hk.2)));(case aS=>exact (bJ zB));(case aL=>have:=amD.out;omega);intro asE w20 ho hb hg hat;rw [← amE.out] at ho;obtain ⟨xG,HB,amF⟩:=zA3 (Kd.ru (ok:=(fun _=>True)) (by (with_reducible repeat (first|apply Kd.aJ|apply Kd.aK|apply Kd.aU));exact Kd.dN xG.out (fun _ hk=>⟨trivial,hk⟩)) hg hat) hb ho;clear ho hb hg hat));try go_wp2_with (first|(go_at_call 144;(with_reducible refine (dO.calls k3 (wrap64 ((rd l0 ou)*16384)) qw qg _ A15.out).mono ?_);rintro e w18 ⟨rfl,hb⟩;obtain ⟨jq,dK,HB⟩:=zA3 (Kd.jA (by (with_reducible repeat (first|apply Kd.aJ|apply Kd.aK|apply Kd.aU));exact jq.out) hb) (Kd.jA (by (with_reducible repeat (first|apply Kd.aJ|apply Kd.aK|apply Kd.aU));exact dK.out) hb) (ak zB hb);(try clear hb))|((with_reducible refine jG (b := .append) (xs := #[.tmp 47,.tmp 49]) rfl ?_);(try (refine kK (by rfl) ?_;dsimp only));at_builtin;refine Kd.kJ (Kd.int .i64) (w0:=w) w.heap.size rfl (.tmp 47) (.tmp 49) 44 2 (.int .i64 0) 8 rfl Tryz.underlying44 vC rfl (by decide) (by omega) u7 yO qg [.int .i64 qg] (fun k_=>some k_≠(u8:Value).ownBlock) (fun _=>False) rfl rfl ?aP (fun _ hk=>hk.elim) ?aF ?aO ?aB ?aS ?aL ?_;(case aP=>exact rfl);(case aB=>exact zB);(case aF=>exact (fun k_ hk=>Kd.fresh' (Kd.lD (by (with_reducible repeat (first|apply Kd.aJ|apply Kd.aK|apply Kd.aU));exact dK.out)) k_ hk));(case aO=>exact (by (with_reducible repeat (first|apply Kd.aJ|apply Kd.aK|apply Kd.aU));exact jq.out));(case aS=>exact (bJ zB));(case aL=>have:=amB.out;omega);intro aj6 w19 ho hb hg hat;rw [← amC.out] at ho;obtain ⟨dK,HB,xG⟩:=zA3 (Kd.ru (ok:=(fun _=>True)) (by (with_reducible repeat (first|apply Kd.aJ|apply Kd.aK|apply Kd.aU));exact Kd.dN dK.out (fun _ hk=>⟨trivial,hk⟩)) hg hat) hb ho;clear ho hb hg hat)|((with_reducible refine jG (b := .append) (xs := #[.tmp 51,.tmp 58]) rfl ?_);(try (refine kK (by rfl) ?_;dsimp only));at_builtin;refine Kd.kJ (Kd.int .i64) (w0:=w) w.heap.size rfl (.tmp 51) (.tmp 58) 44 2 (.int .i64 0) 8 rfl Tryz.underlying44 vC rfl (by decide) (by omega) u8 abr (wrap64 ((wrap64 ((rd l0 ou)*16384)) - (wrap64 (qg*qw)))) [.int .i64 (wrap64 ((wrap64 ((rd l0 ou)*16384)) - (wrap64 (qg*qw))))] (fun k_=>some k_≠(aj6:Value).ownBlock) (fun _=>False) rfl rfl ?aP (fun _ hk=>hk.elim) ?aF ?aO ?aB ?aS ?aL ?_;(case aP=>exact rfl);(case aB=>exact zB);(case aF=>exact (fun k_ hk=>Kd.fresh' (Kd.lD (by (with_reducible repeat (first|apply Kd.aJ|apply Kd.aK|apply Kd.aU));exact xG.out)) k_ hk));(case aO=>exact (by (with_reducible repeat (first|apply Kd.aJ|apply Kd.aK|apply Kd.aU));exact Kd.dN dK.out (fun _ hk=>hk.2)));(case aS=>exact (bJ zB));(case aL=>have:=amD.out;omega);intro asE w20 ho hb hg hat;rw [← amE.out] at ho;obtain ⟨xG,HB,amF⟩:=zA3 (Kd.ru (ok:=(fun _=>True)) (by (with_reducible repeat (first|apply Kd.aJ|apply Kd.aK|apply Kd.aU));exact Kd.dN xG.out (fun _ hk=>⟨trivial,hk⟩)) hg hat) hb ho;clear ho hb hg hat)))
               go_roundg k3
               case measure=>have:=HJ1.out;have:=HK2.out;have:=HK3.out;omega
               case rel=>exact ⟨(ao9),(asD),(wrap64 (afF - qg)),(wrap64 (ou+1)),zT,zT,H',⟨by have:=HJ1.out;have:=HK2.out;have:=HK3.out;omega⟩,⟨by (with_reducible repeat (first|apply Kd.aJ|apply Kd.aK|apply Kd.aU));exact Kd.dN xG.out (fun _ hk=>hk.2)⟩,⟨by (with_reducible repeat (first|apply Kd.aJ|apply Kd.aK|apply Kd.aU));exact amF.out⟩,⟨zB⟩⟩
              ·rw [if_neg c17] at H
               exact absurd H (by simp)
             ·rw [if_neg c16] at H
              exact absurd H (by simp)
            ·rw [if_neg c14] at H
             exact absurd H (by simp)
           ·rw [if_neg c13] at H
            exact absurd H (by simp)
          ·rw [if_neg c12] at H
           have aal:=decide_eq_false c12
           clear c12
           have H':=aj.mk H
           clear H
           go_wp2
           repeat (go_quiet (fail);try go_wp2)
           try simp only [Act.put,List.setIfInBounds_toArray,List.set_cons_succ,List.set_cons_zero]
           go_loopg [9] k3 (fun kq v9 w'=>∃ (lJ:List Int) (lg:List Int) (aeg:Int),v9 = .int .i64 aeg∧aj (aG.l2 kq lJ lg aeg=some (r1,r2))∧aj (kq≤k3)∧aj (Kd.R (Kd.int .i64) 2 w' w.heap.size (fun k_=>some k_≠(u8:Value).ownBlock) u7 lJ)∧aj (Kd.R (Kd.int .i64) 2 w' w.heap.size (fun k_=>some k_≠(u7:Value).ownBlock) u8 lg)∧aj (Below w.heap.size w w'))
           case atStart=>exact ⟨(yO),(abr),(afF),zT,H',⟨Nat.le_refl _⟩,⟨by (with_reducible repeat (first|apply Kd.aJ|apply Kd.aK|apply Kd.aU));exact jq.out⟩,⟨by (with_reducible repeat (first|apply Kd.aJ|apply Kd.aK|apply Kd.aU));exact dK.out⟩,⟨zB⟩⟩
           case round =>
            clear H'
            try clear hx3
            obtain ⟨lJ,lg,aeg,rfl,HA,HK4,jq,dK,HB⟩:=hrel
            cases gk with
            | zero=>exact absurd HA.out (by simp [aG.l2])
            | succ k4 =>
             have H:=HA.out
             clear HA
             simp only [aG.l2] at H
             by_cases c21:aeg > 0
             ·rw [if_pos c21] at H
              have ac4:=decide_eq_true c21
              clear c21
              have H':=aj.mk H
              clear H
              obtain ⟨afG,wS,apc⟩:=Kd.fU dK.out
              subst apc
              go_wp2
              repeat (go_quiet (fail);try go_wp2)
              try simp only [Act.put,List.setIfInBounds_toArray,List.set_cons_succ,List.set_cons_zero]
              go_loopg [13,68] k4 (fun kq v13 v68 w'=>∃ (fD:Int) (sS:Int),v13 = .int .i64 fD∧v68 = .int .i64 sS∧aj (aG.l3 kq lJ lg aeg fD (lg.length:Int) sS=some (r1,r2))∧aj (kq≤k4)∧aj (Kd.R (Kd.int .i64) 2 w' w.heap.size (fun k_=>some k_≠((.slice afG lg.length wS):Value).ownBlock) u7 lJ)∧aj (Kd.R (Kd.int .i64) 2 w' w.heap.size (fun k_=>some k_≠(u7:Value).ownBlock) (.slice afG lg.length wS) lg)∧aj (Below w.heap.size w w'))
              case atStart=>exact ⟨(0),(0),zT,zT,H',⟨Nat.le_refl _⟩,⟨by (with_reducible repeat (first|apply Kd.aJ|apply Kd.aK|apply Kd.aU));exact jq.out⟩,⟨by (with_reducible repeat (first|apply Kd.aJ|apply Kd.aK|apply Kd.aU));exact dK.out⟩,⟨zB⟩⟩
              case round =>
               clear H'
               try clear hx3
               obtain ⟨fD,sS,rfl,rfl,HA,HK5,jq,dK,HB⟩:=hrel
               cases gk with
               | zero=>exact absurd HA.out (by simp [aG.l3])
               | succ k5 =>
                have H:=HA.out
                clear HA
                simp only [aG.l3] at H
                by_cases c23:sS < (lg.length:Int)
                ·rw [if_pos c23] at H
                 have amG:=decide_eq_true c23
                 clear c23
                 by_cases c24:0≤sS
                 ·rw [if_pos c24] at H
                  have auN:=decide_eq_true c24
                  clear c24
                  by_cases c25:sS < (lg.length:Int)
                  ·rw [if_pos c25] at H
                   have az2:=decide_eq_true c25
                   clear c25
                   by_cases c26:0≤fD
                   ·rw [if_pos c26] at H
                    have aeR:=decide_eq_true c26
                    clear c26
                    by_cases c27:fD < (lg.length:Int)
                    ·rw [if_pos c27] at H
                     have az3:=decide_eq_true c27
                     clear c27
                     by_cases c28:(rd lg sS) > (rd lg fD)
                     ·rw [if_pos c28] at H
                      have amH:=decide_eq_true c28
                      clear c28
                      have H':=aj.mk H
                      clear H
                      have afH:0≤(sS:Int):=of_decide_eq_true (by first|(with_reducible assumption)|assumption)
                      have afI:sS < (lg.length:Int):=of_decide_eq_true (by first|(with_reducible assumption)|assumption)
                      obtain ⟨amI,apd,aru⟩:=Kd.jF (Kd.dH dK.out).2.2 sS afH afI
                      cases apd
                      replace afH:=eq_true afH
                      replace afI:=eq_true afI
                      have afJ:0≤(fD:Int):=of_decide_eq_true (by first|(with_reducible assumption)|assumption)
                      have afK:fD < (lg.length:Int):=of_decide_eq_true (by first|(with_reducible assumption)|assumption)
                      obtain ⟨amJ,ape,arv⟩:=Kd.jF (Kd.dH dK.out).2.2 fD afJ afK
                      obtain rfl:amI=amJ:=(by injection ape)
                      replace afJ:=eq_true afJ
                      replace afK:=eq_true afK
                      go_wp2
                      repeat (go_quiet (fail);try go_wp2)
                      go_roundg k5
                      case measure=>have:=HJ1.out;have:=HK2.out;have:=HK3.out;have:=HK4.out;have:=HK5.out;omega
                      case rel=>exact ⟨(sS),(wrap64 (sS+1)),zT,zT,H',⟨by have:=HJ1.out;have:=HK2.out;have:=HK3.out;have:=HK4.out;have:=HK5.out;omega⟩,⟨by (with_reducible repeat (first|apply Kd.aJ|apply Kd.aK|apply Kd.aU));exact jq.out⟩,⟨by (with_reducible repeat (first|apply Kd.aJ|apply Kd.aK|apply Kd.aU));exact dK.out⟩,⟨zB⟩⟩
                     ·rw [if_neg c28] at H
                      have amH:=decide_eq_false c28
                      clear c28
                      have H':=aj.mk H
                      clear H
                      have afH:0≤(sS:Int):=of_decide_eq_true (by first|(with_reducible assumption)|assumption)
                      have afI:sS < (lg.length:Int):=of_decide_eq_true (by first|(with_reducible assumption)|assumption)
                      obtain ⟨amI,apd,aru⟩:=Kd.jF (Kd.dH dK.out).2.2 sS afH afI
                      cases apd
                      replace afH:=eq_true afH
                      replace afI:=eq_true afI
                      have afJ:0≤(fD:Int):=of_decide_eq_true (by first|(with_reducible assumption)|assumption)
                      have afK:fD < (lg.length:Int):=of_decide_eq_true (by first|(with_reducible assumption)|assumption)
                      obtain ⟨amJ,ape,arv⟩:=Kd.jF (Kd.dH dK.out).2.2 fD afJ afK
                      obtain rfl:amI=amJ:=(by injection ape)
                      replace afJ:=eq_true afJ
                      replace afK:=eq_true afK
                      go_wp2
                      repeat (go_quiet (fail);try go_wp2)
                      go_roundg k5
                      case measure=>have:=HJ1.out;have:=HK2.out;have:=HK3.out;have:=HK4.out;have:=HK5.out;omega
                      case rel=>exact ⟨(fD),(wrap64 (sS+1)),zT,zT,H',⟨by have:=HJ1.out;have:=HK2.out;have:=HK3.out;have:=HK4.out;have:=HK5.out;omega⟩,⟨by (with_reducible repeat (first|apply Kd.aJ|apply Kd.aK|apply Kd.aU));exact jq.out⟩,⟨by (with_reducible repeat (first|apply Kd.aJ|apply Kd.aK|apply Kd.aU));exact dK.out⟩,⟨zB⟩⟩
                    ·rw [if_neg c27] at H
                     exact absurd H (by simp)
                   ·rw [if_neg c26] at H
                    exact absurd H (by simp)
                  ·rw [if_neg c25] at H
                   exact absurd H (by simp)
                 ·rw [if_neg c24] at H
                  exact absurd H (by simp)
                ·rw [if_neg c23] at H
                 have amG:=decide_eq_false c23
                 clear c23
                 by_cases c29:0≤fD
                 ·rw [if_pos c29] at H
                  have amh:=decide_eq_true c29
                  clear c29
                  by_cases c30:fD < (lJ.length:Int)
                  ·rw [if_pos c30] at H
                   have aqF:=decide_eq_true c30
                   clear c30
                   obtain ⟨ahy,agD⟩:∃ y_:List Int,y_=(lJ.set (fD:Int).toNat (wrap64 ((rd lJ fD)+1))):=⟨_,rfl⟩
                   replace H:(if fD < (lg.length:Int) then (aG.l2 k5 ahy (lg.set (fD:Int).toNat (-1)) (wrap64 (aeg - 1))) else (none))=some (r1,r2):=by first|(rw [agD];with_reducible exact H)|(have H2_:=(Option.bind_some _ _).symm.trans H;rw [agD];with_reducible exact H2_)|(have H2_:=(Option.bind_some _ _).symm.trans H;with_reducible exact H2_)|with_reducible exact H|(rw [agD];exact H)|exact H
                   have amK:=aj.mk agD
                   clear agD
                   by_cases c32:fD < (lg.length:Int)
                   ·rw [if_pos c32] at H
                    have az4:=decide_eq_true c32
                    clear c32
                    obtain ⟨aj7,agE⟩:∃ y_:List Int,y_=(lg.set (fD:Int).toNat (-1)):=⟨_,rfl⟩
                    replace H:(aG.l2 k5 ahy aj7 (wrap64 (aeg - 1)))=some (r1,r2):=by first|(rw [agE];with_reducible exact H)|(have H2_:=(Option.bind_some _ _).symm.trans H;rw [agE];with_reducible exact H2_)|(have H2_:=(Option.bind_some _ _).symm.trans H;with_reducible exact H2_)|with_reducible exact H|(rw [agE];exact H)|exact H
                    have amL:=aj.mk agE
                    clear agE
                    have H':=aj.mk H
                    clear H
                    obtain ⟨avH,uH,apf⟩:=Kd.fU jq.out
                    subst apf
                    have apg:0≤(fD:Int):=of_decide_eq_true (by first|(with_reducible assumption)|assumption)
                    have aph:fD < (lJ.length:Int):=of_decide_eq_true (by first|(with_reducible assumption)|assumption)
                    obtain ⟨az5,avI,arw⟩:=Kd.jF (Kd.dH jq.out).2.2 fD apg aph
                    cases avI
                    replace apg:=eq_true apg
                    replace aph:=eq_true aph
                    have p31:0≤(fD:Int):=of_decide_eq_true (by first|(with_reducible assumption)|assumption)
                    have q31:(fD:Int) < ((lJ.length:Int):Int):=of_decide_eq_true (by first|(with_reducible assumption)|assumption)
                    obtain ⟨qA,aAU,asF,asG,avJ,aAV,asH⟩:=Kd.af9 jq.out (by omega)
                    (first|cases asF|(injection asF with ea_ en_ ec_;(first|subst ea_|(injection ea_ with ea_;subst ea_));subst ec_;clear en_))
                    have apj:=aj.mk asG
                    have aAW:=aj.mk asH
                    clear asG avJ asH
                    (first|simp only [add_plain] at arw|skip)
                    obtain ⟨axQ,axR⟩:=Kd.uS 0 jq.out (fD:Int) p31 q31
                    replace p31:=eq_true p31
                    replace q31:=eq_true q31
                    have aaN:=Kd.xg jq.out (fD:Int) (wrap64 ((rd lJ fD)+1))
                    go_wp2_with (first|((with_reducible refine wE (t:=2) (p:=87) rfl ?_);(try (rw [nX wr];generalize hq_:World.drewN wr _=wr;obtain ⟨jq,dK,HB⟩:=zA3 (Kd.abt hq_ jq.out) (Kd.abt hq_ dK.out) (abu hq_ HB.out);(try (have aaN:=Kd.xg jq.out (fD:Int) (wrap64 ((rd lJ fD)+1))))));refine uT (t:=2) (p:=87) (v := ?anK) (w1:=(wr.setCell ⟨qA,(fD:Int).toNat,none⟩ (.int .i64 (wrap64 ((rd lJ fD)+1))))) ?hg ?ho ?hn ?hr ?_;(case ho=>rfl);(case hg=>rfl);(case hn=>rfl);(case hr=>first|(go_simp;done)|(go_simp;rfl));intro w36 hw;have hg:wr.grownBy w36 (some qA):=(by rw [hw];exact aaN.2);have hp_:Kd.R (Kd.int .i64) 2 w36 w.heap.size (fun k_=>some k_≠(.slice afG lg.length wS:Value).ownBlock) (.slice (some ⟨qA,0,none⟩) lJ.length uH) ahy:=(by rw [hw,amK.out];exact aaN.1);clear aaN;obtain ⟨jq,dK,HB⟩:=zA3 hp_ (Kd.ru (v:=(.slice (some ⟨qA,0,none⟩) lJ.length uH)) (v1:=(.slice (some ⟨qA,0,none⟩) lJ.length uH)) (ok:=(fun _=>True)) (by (with_reducible repeat (first|apply Kd.aJ|apply Kd.aK|apply Kd.aU));exact Kd.dN dK.out (fun _ hk=>⟨trivial,hk⟩)) hg (.inl rfl)) ((by rw [hw];exact rE (HB.out) apj.out:Below w.heap.size w w36));clear hg hw hp_;have p33:0≤(fD:Int):=of_decide_eq_true (by first|(with_reducible assumption)|assumption);have q33:(fD:Int) < ((lg.length:Int):Int):=of_decide_eq_true (by first|(with_reducible assumption)|assumption);obtain ⟨wz,apk,ach,aeh,aj8,asI,aei⟩:=Kd.af9 dK.out (by omega);(first|cases ach|(injection ach with ea_ en_ ec_;(first|subst ea_|(injection ea_ with ea_;subst ea_));subst ec_;clear en_));have aj9:=aj.mk aeh;have asJ:=aj.mk aei;clear aeh aj8 aei;obtain ⟨anL,anM⟩:=Kd.uS 0 dK.out (fD:Int) p33 q33;replace p33:=eq_true p33;replace q33:=eq_true q33;have n_:=aj.mk (Kd.dN (ok':=(fun k_=>some k_≠(.slice (some ⟨qA,0,none⟩) lJ.length uH:Value).ownBlock)) dK.out (fun k_ hk=>hk.2));clear dK;have dK:=n_;clear n_;obtain ⟨agF,agG⟩:=Kd.uS 0 dK.out (fD:Int) (of_decide_eq_true (by first|(with_reducible assumption)|assumption)) (of_decide_eq_true (by first|(with_reducible assumption)|assumption));have yP:=Kd.xg dK.out (fD:Int) (-1))|((with_reducible refine wE (t:=2) (p:=90) rfl ?_);(try (rw [nX w36];generalize hq_:World.drewN w36 _=w36;obtain ⟨jq,dK,HB⟩:=zA3 (Kd.abt hq_ jq.out) (Kd.abt hq_ dK.out) (abu hq_ HB.out);(try (have n_:=aj.mk (Kd.dN (ok':=(fun k_=>some k_≠(.slice (some ⟨qA,0,none⟩) lJ.length uH:Value).ownBlock)) dK.out (fun k_ hk=>hk.2));clear dK;have dK:=n_;clear n_));(try (obtain ⟨agF,agG⟩:=Kd.uS 0 dK.out (fD:Int) (of_decide_eq_true (by first|(with_reducible assumption)|assumption)) (of_decide_eq_true (by first|(with_reducible assumption)|assumption))));(try (have yP:=Kd.xg dK.out (fD:Int) (-1)))));refine uT (t:=2) (p:=90) (v := ?anN) (w1:=(w36.setCell ⟨wz,(fD:Int).toNat,none⟩ (.int .i64 (-1)))) ?hg ?ho ?hn ?hr ?_;(case ho=>rfl);(case hg=>rfl);(case hn=>rfl);(case hr=>first|(go_simp;done)|(go_simp;rfl));intro w38 hw;have hg:w36.grownBy w38 (some wz):=(by rw [hw];exact yP.2);have hp_:Kd.R (Kd.int .i64) 2 w38 w.heap.size (fun k_=>some k_≠(.slice (some ⟨qA,0,none⟩) lJ.length uH:Value).ownBlock) (.slice (some ⟨wz,0,none⟩) lg.length wS) aj7:=(by rw [hw,amL.out];exact yP.1);clear yP;obtain ⟨jq,dK,HB⟩:=zA3 (Kd.ru (v:=(.slice (some ⟨wz,0,none⟩) lg.length wS)) (v1:=(.slice (some ⟨wz,0,none⟩) lg.length wS)) (ok:=(fun _=>True)) (by (with_reducible repeat (first|apply Kd.aJ|apply Kd.aK|apply Kd.aU));exact Kd.dN jq.out (fun _ hk=>⟨trivial,hk⟩)) hg (.inl rfl)) hp_ ((by rw [hw];exact rE (HB.out) aj9.out:Below w.heap.size w w38));clear hg hw hp_))
                    repeat (go_quiet (first|((with_reducible refine wE (t:=2) (p:=87) rfl ?_);(try (rw [nX wr];generalize hq_:World.drewN wr _=wr;obtain ⟨jq,dK,HB⟩:=zA3 (Kd.abt hq_ jq.out) (Kd.abt hq_ dK.out) (abu hq_ HB.out);(try (have aaN:=Kd.xg jq.out (fD:Int) (wrap64 ((rd lJ fD)+1))))));refine uT (t:=2) (p:=87) (v := ?anK) (w1:=(wr.setCell ⟨qA,(fD:Int).toNat,none⟩ (.int .i64 (wrap64 ((rd lJ fD)+1))))) ?hg ?ho ?hn ?hr ?_;(case ho=>rfl);(case hg=>rfl);(case hn=>rfl);(case hr=>first|(go_simp;done)|(go_simp;rfl));intro w36 hw;have hg:wr.grownBy w36 (some qA):=(by rw [hw];exact aaN.2);have hp_:Kd.R (Kd.int .i64) 2 w36 w.heap.size (fun k_=>some k_≠(.slice afG lg.length wS:Value).ownBlock) (.slice (some ⟨qA,0,none⟩) lJ.length uH) ahy:=(by rw [hw,amK.out];exact aaN.1);clear aaN;obtain ⟨jq,dK,HB⟩:=zA3 hp_ (Kd.ru (v:=(.slice (some ⟨qA,0,none⟩) lJ.length uH)) (v1:=(.slice (some ⟨qA,0,none⟩) lJ.length uH)) (ok:=(fun _=>True)) (by (with_reducible repeat (first|apply Kd.aJ|apply Kd.aK|apply Kd.aU));exact Kd.dN dK.out (fun _ hk=>⟨trivial,hk⟩)) hg (.inl rfl)) ((by rw [hw];exact rE (HB.out) apj.out:Below w.heap.size w w36));clear hg hw hp_;have p33:0≤(fD:Int):=of_decide_eq_true (by first|(with_reducible assumption)|assumption);have q33:(fD:Int) < ((lg.length:Int):Int):=of_decide_eq_true (by first|(with_reducible assumption)|assumption);obtain ⟨wz,apk,ach,aeh,aj8,asI,aei⟩:=Kd.af9 dK.out (by omega);(first|cases ach|(injection ach with ea_ en_ ec_;(first|subst ea_|(injection ea_ with ea_;subst ea_));subst ec_;clear en_));have aj9:=aj.mk aeh;have asJ:=aj.mk aei;clear aeh aj8 aei;obtain ⟨anL,anM⟩:=Kd.uS 0 dK.out (fD:Int) p33 q33;replace p33:=eq_true p33;replace q33:=eq_true q33;have n_:=aj.mk (Kd.dN (ok':=(fun k_=>some k_≠(.slice (some ⟨qA,0,none⟩) lJ.length uH:Value).ownBlock)) dK.out (fun k_ hk=>hk.2));clear dK;have dK:=n_;clear n_;obtain ⟨agF,agG⟩:=Kd.uS 0 dK.out (fD:Int) (of_decide_eq_true (by first|(with_reducible assumption)|assumption)) (of_decide_eq_true (by first|(with_reducible assumption)|assumption));have yP:=Kd.xg dK.out (fD:Int) (-1))|((with_reducible refine wE (t:=2) (p:=90) rfl ?_);(try (rw [nX w36];generalize hq_:World.drewN w36 _=w36;obtain ⟨jq,dK,HB⟩:=zA3 (Kd.abt hq_ jq.out) (Kd.abt hq_ dK.out) (abu hq_ HB.out);(try (have n_:=aj.mk (Kd.dN (ok':=(fun k_=>some k_≠(.slice (some ⟨qA,0,none⟩) lJ.length uH:Value).ownBlock)) dK.out (fun k_ hk=>hk.2));clear dK;have dK:=n_;clear n_));(try (obtain ⟨agF,agG⟩:=Kd.uS 0 dK.out (fD:Int) (of_decide_eq_true (by first|(with_reducible assumption)|assumption)) (of_decide_eq_true (by first|(with_reducible assumption)|assumption))));(try (have yP:=Kd.xg dK.out (fD:Int) (-1)))));refine uT (t:=2) (p:=90) (v := ?anN) (w1:=(w36.setCell ⟨wz,(fD:Int).toNat,none⟩ (.int .i64 (-1)))) ?hg ?ho ?hn ?hr ?_;(case ho=>rfl);(case hg=>rfl);(case hn=>rfl);(case hr=>first|(go_simp;done)|(go_simp;rfl));intro w38 hw;have hg:w36.grownBy w38 (some wz):=(by rw [hw];exact yP.2);have hp_:Kd.R (Kd.int .i64) 2 w38 w.heap.size (fun k_=>some k_≠(.slice (some ⟨qA,0,none⟩) lJ.length uH:Value).ownBlock) (.slice (some ⟨wz,0,none⟩) lg.length wS) aj7:=(by rw [hw,amL.out];exact yP.1);clear yP;obtain ⟨jq,dK,HB⟩:=zA3 (Kd.ru (v:=(.slice (some ⟨wz,0,none⟩) lg.length wS)) (v1:=(.slice (some ⟨wz,0,none⟩) lg.length wS)) (ok:=(fun _=>True)) (by (with_reducible repeat (first|apply Kd.aJ|apply Kd.aK|apply Kd.aU));exact Kd.dN jq.out (fun _ hk=>⟨trivial,hk⟩)) hg (.inl rfl)) hp_ ((by rw [hw];exact rE (HB.out) aj9.out:Below w.heap.size w w38));clear hg hw hp_));try go_wp2_with (first|((with_reducible refine wE (t:=2) (p:=87) rfl ?_);(try (rw [nX wr];generalize hq_:World.drewN wr _=wr;obtain ⟨jq,dK,HB⟩:=zA3 (Kd.abt hq_ jq.out) (Kd.abt hq_ dK.out) (abu hq_ HB.out);(try (have aaN:=Kd.xg jq.out (fD:Int) (wrap64 ((rd lJ fD)+1))))));refine uT (t:=2) (p:=87) (v := ?anK) (w1:=(wr.setCell ⟨qA,(fD:Int).toNat,none⟩ (.int .i64 (wrap64 ((rd lJ fD)+1))))) ?hg ?ho ?hn ?hr ?_;(case ho=>rfl);(case hg=>rfl);(case hn=>rfl);(case hr=>first|(go_simp;done)|(go_simp;rfl));intro w36 hw;have hg:wr.grownBy w36 (some qA):=(by rw [hw];exact aaN.2);have hp_:Kd.R (Kd.int .i64) 2 w36 w.heap.size (fun k_=>some k_≠(.slice afG lg.length wS:Value).ownBlock) (.slice (some ⟨qA,0,none⟩) lJ.length uH) ahy:=(by rw [hw,amK.out];exact aaN.1);clear aaN;obtain ⟨jq,dK,HB⟩:=zA3 hp_ (Kd.ru (v:=(.slice (some ⟨qA,0,none⟩) lJ.length uH)) (v1:=(.slice (some ⟨qA,0,none⟩) lJ.length uH)) (ok:=(fun _=>True)) (by (with_reducible repeat (first|apply Kd.aJ|apply Kd.aK|apply Kd.aU));exact Kd.dN dK.out (fun _ hk=>⟨trivial,hk⟩)) hg (.inl rfl)) ((by rw [hw];exact rE (HB.out) apj.out:Below w.heap.size w w36));clear hg hw hp_;have p33:0≤(fD:Int):=of_decide_eq_true (by first|(with_reducible assumption)|assumption);have q33:(fD:Int) < ((lg.length:Int):Int):=of_decide_eq_true (by first|(with_reducible assumption)|assumption);obtain ⟨wz,apk,ach,aeh,aj8,asI,aei⟩:=Kd.af9 dK.out (by omega);(first|cases ach|(injection ach with ea_ en_ ec_;(first|subst ea_|(injection ea_ with ea_;subst ea_));subst ec_;clear en_));have aj9:=aj.mk aeh;have asJ:=aj.mk aei;clear aeh aj8 aei;obtain ⟨anL,anM⟩:=Kd.uS 0 dK.out (fD:Int) p33 q33;replace p33:=eq_true p33;replace q33:=eq_true q33;have n_:=aj.mk (Kd.dN (ok':=(fun k_=>some k_≠(.slice (some ⟨qA,0,none⟩) lJ.length uH:Value).ownBlock)) dK.out (fun k_ hk=>hk.2));clear dK;have dK:=n_;clear n_;obtain ⟨agF,agG⟩:=Kd.uS 0 dK.out (fD:Int) (of_decide_eq_true (by first|(with_reducible assumption)|assumption)) (of_decide_eq_true (by first|(with_reducible assumption)|assumption));have yP:=Kd.xg dK.out (fD:Int) (-1))|((with_reducible refine wE (t:=2) (p:=90) rfl ?_);(try (rw [nX w36];generalize hq_:World.drewN w36 _=w36;obtain ⟨jq,dK,HB⟩:=zA3 (Kd.abt hq_ jq.out) (Kd.abt hq_ dK.out) (abu hq_ HB.out);(try (have n_:=aj.mk (Kd.dN (ok':=(fun k_=>some k_≠(.slice (some ⟨qA,0,none⟩) lJ.length uH:Value).ownBlock)) dK.out (fun k_ hk=>hk.2));clear dK;have dK:=n_;clear n_));(try (obtain ⟨agF,agG⟩:=Kd.uS 0 dK.out (fD:Int) (of_decide_eq_true (by first|(with_reducible assumption)|assumption)) (of_decide_eq_true (by first|(with_reducible assumption)|assumption))));(try (have yP:=Kd.xg dK.out (fD:Int) (-1)))));refine uT (t:=2) (p:=90) (v := ?anN) (w1:=(w36.setCell ⟨wz,(fD:Int).toNat,none⟩ (.int .i64 (-1)))) ?hg ?ho ?hn ?hr ?_;(case ho=>rfl);(case hg=>rfl);(case hn=>rfl);(case hr=>first|(go_simp;done)|(go_simp;rfl));intro w38 hw;have hg:w36.grownBy w38 (some wz):=(by rw [hw];exact yP.2);have hp_:Kd.R (Kd.int .i64) 2 w38 w.heap.size (fun k_=>some k_≠(.slice (some ⟨qA,0,none⟩) lJ.length uH:Value).ownBlock) (.slice (some ⟨wz,0,none⟩) lg.length wS) aj7:=(by rw [hw,amL.out];exact yP.1);clear yP;obtain ⟨jq,dK,HB⟩:=zA3 (Kd.ru (v:=(.slice (some ⟨wz,0,none⟩) lg.length wS)) (v1:=(.slice (some ⟨wz,0,none⟩) lg.length wS)) (ok:=(fun _=>True)) (by (with_reducible repeat (first|apply Kd.aJ|apply Kd.aK|apply Kd.aU));exact Kd.dN jq.out (fun _ hk=>⟨trivial,hk⟩)) hg (.inl rfl)) hp_ ((by rw [hw];exact rE (HB.out) aj9.out:Below w.heap.size w w38));clear hg hw hp_)))
                    go_roundg k5
                    case measure=>have:=HJ1.out;have:=HK2.out;have:=HK3.out;have:=HK4.out;have:=HK5.out;omega
                    case rel=>exact ⟨(ahy),(aj7),(wrap64 (aeg - 1)),zT,H',⟨by have:=HJ1.out;have:=HK2.out;have:=HK3.out;have:=HK4.out;have:=HK5.out;omega⟩,⟨by (with_reducible repeat (first|apply Kd.aJ|apply Kd.aK|apply Kd.aU));exact Kd.dN jq.out (fun _ hk=>hk.2)⟩,⟨by (with_reducible repeat (first|apply Kd.aJ|apply Kd.aK|apply Kd.aU));exact dK.out⟩,⟨zB⟩⟩
                   ·rw [if_neg c32] at H
                    exact absurd H (by simp)
                  ·rw [if_neg c30] at H
                   exact absurd H (by simp)
                 ·rw [if_neg c29] at H
                  exact absurd H (by simp)
             ·rw [if_neg c21] at H
              have ac4:=decide_eq_false c21
              clear c21
              simp only [Option.some.injEq,Prod.mk.injEq] at H
              obtain ⟨rfl,rfl⟩:=H
              go_wp2
              repeat (go_quiet (fail);try go_wp2)
              go_ret2
              exact ⟨_,zS,by (with_reducible repeat (first|apply Kd.aJ|apply Kd.aK|apply Kd.aU));exact Kd.dN jq.out (fun _ hk=>trivial),zB⟩
end Go.Proofs.YtpondkggmcmpfaaGreatDoor.QA
namespace Go.Proofs.YtpondkggmcmpfaaGreatDoor.QA
open Go.Proofs.YtpondkggmcmpfaaGreatDoor.T
open Go.RowKit Go.Proofs.YtpondkggmcmpfaaGreatDoorW.PrintWords Go.Proofs.YtpondkggmcmpfaaGreatDoorW.PrintLast Go.Proofs.YtpondkggmcmpfaaGreatDoorW.PrintMore
attribute [local go_sem] dZ dS dU fK fM
set_option linter.unusedVariables false
set_option linter.unusedSimpArgs false
mutual
def bV.j0:Nat→Int→Int→Int→Bool→Option ((List (kC)) × Int)
 | 0,_,_,_,_=>none
 | k+1,x0,x1,x2,x29=>if x29=true then (some (([]:List (kC)),6)) else (bV.l0 k x0 x1 x2 ([]:List (kC)) x2 0)
def bV.l0:Nat→Int→Int→Int→List (kC)→Int→Int→Option ((List (kC)) × Int)
 | 0,_,_,_,_,_,_=>none
 | k+1,x0,x1,x2,x8,x30,x31=>if x31 < x30 then ((bU.f k x0 x1 x2 x31).bind fun aqH=>((aG.f k aqH.2).bind fun amM=>(if amM.2=0 then (if x8.length < 4398046511104 then (bV.l0 k x0 x1 x2 (x8 ++ [(⟨aqH.1,amM.1⟩:kC)]) x30 (wrap64 (x31+1))) else (none)) else (some (([]:List (kC)),amM.2))))) else (some (x8,0))
end
def bV.f (k:Nat) (a0 a1 a2:Int):Option ((List (kC)) × Int):=if a0 < 0 then (bV.j0 k a0 a1 a2 true) else (if a0 > 2 then (bV.j0 k a0 a1 a2 true) else ((iG.f a1).bind fun apl=>(if apl=true then ((iG.f a2).bind fun amN=>(bV.j0 k a0 a1 a2 (!amN))) else (bV.j0 k a0 a1 a2 true))))
set_option maxHeartbeats 8000000 in
set_option maxRecDepth 100000 in
theorem bV.calls (k:Nat) (a0 a1 a2:Int) (r1:List (kC)) (r2:Int) (w:World) (h:bV.f k a0 a1 a2=some (r1,r2)) :
  Calls Tryz.prog 93 #[.int .i64 a0,.int .i64 a1,.int .i64 a2] w fun e w'=>∃ v0_:Value,e = .returned (.tuple #[v0_,.int .i64 r2])∧Kd.S qX 138 w' w.heap.size (fun _=>True) v0_ r1∧Below w.heap.size w w':=by
 have az6:=Tryz.underlying138
 have HB:=aj.mk (Below.refl w.heap.size w)
 have H:=h
 clear h
 unfold bV.f at H
 have HC4:=aj.mk H
 clear H
 go_enter Tryz.func93,Tryz.ntmps93
 go_upto_region 1 with (fail)
 go_cut [29] (fun v29 wc=>∃ (kq:Nat) (ai7:Bool),v29 = .bool ai7∧aj (bV.j0 kq a0 a1 a2 ai7=some (r1,r2))∧aj (kq≤k)∧aj (Below w.heap.size w wc))
 case first =>
  have H:=HC4.out
  clear HC4
  by_cases c5:a0 < 0
  ·rw [if_pos c5] at H
   have iw:=decide_eq_true c5
   clear c5
   (first|rw [iw]|(simp only [bY,cZ];rw [iw])|skip)
   have H':=aj.mk H
   clear H
   go_wp2
   go_meet
   case rel=>exact ⟨_,(true),zT,H',⟨by first|omega|exact Nat.le_refl _⟩,⟨zB⟩⟩
  ·rw [if_neg c5] at H
   have iw:=decide_eq_false c5
   clear c5
   (first|rw [iw]|(simp only [bY,cZ];rw [iw])|skip)
   by_cases c6:a0 > 2
   ·rw [if_pos c6] at H
    have gQ:=decide_eq_true c6
    clear c6
    have H':=aj.mk H
    clear H
    go_wp2
    go_meet
    case rel=>exact ⟨_,(true),zT,H',⟨by first|omega|exact Nat.le_refl _⟩,⟨zB⟩⟩
   ·rw [if_neg c6] at H
    have gQ:=decide_eq_false c6
    clear c6
    replace H:=zO H
    obtain ⟨apl,A7,H⟩:=H
    try dsimp only at H
    by_cases c8:apl=true
    ·subst c8
     rw [if_pos rfl] at H;try dsimp only at H
     replace H:=zO H
     obtain ⟨amN,A9,H⟩:=H
     try dsimp only at H
     have H':=aj.mk H
     clear H
     go_wp2_with (first|(go_at_call 113;(with_reducible refine (iG.calls a1 true _ A7.out).mono ?_);rintro e w' ⟨rfl,⟨nd,rfl⟩⟩)|(go_at_call 113;(with_reducible refine (iG.calls a2 amN _ A9.out).mono ?_);rintro e w' ⟨rfl,⟨nd,rfl⟩⟩))
     go_meet
     case rel=>exact ⟨_,(!amN),zT,H',⟨by first|omega|exact Nat.le_refl _⟩,⟨zB⟩⟩
    ·replace c8:=Bool.eq_false_iff.mpr c8
     subst c8
     rw [if_neg (show ¬ (false=true) by decide)] at H;try dsimp only at H
     have H':=aj.mk H
     clear H
     go_wp2_with (first|(go_at_call 113;(with_reducible refine (iG.calls a1 false _ A7.out).mono ?_);rintro e w' ⟨rfl,⟨nd,rfl⟩⟩))
     go_meet
     case rel=>exact ⟨_,(true),zT,H',⟨by first|omega|exact Nat.le_refl _⟩,⟨zB⟩⟩
 case rest =>
  clear HC4
  obtain ⟨kq,ai7,rfl,HA,HJ3,HB⟩:=hcut
  cases kq with
  | zero=>exact absurd HA.out (by simp [bV.j0])
  | succ kj3 =>
   have H:=HA.out
   clear HA
   simp only [bV.j0] at H
   by_cases c10:ai7=true
   ·subst c10
    rw [if_pos rfl] at H;try dsimp only at H
    simp only [Option.some.injEq,Prod.mk.injEq] at H
    obtain ⟨rfl,rfl⟩:=H
    go_wp2
    go_ret2
    exact ⟨_,zS,by first|exact Kd.oL _ _ _ _ _|exact Kd.oW _ _ _ _ _|exact Kd.nP _ _ _ _ _|exact Kd.oZ _ _ _ _ _|exact Kd.jR _ _ _ _ _,zB⟩
   ·replace c10:=Bool.eq_false_iff.mpr c10
    subst c10
    rw [if_neg (show ¬ (false=true) by decide)] at H;try dsimp only at H
    have H':=aj.mk H
    clear H
    go_wp2
    go_loopg [8,31] kj3 (fun kq v8 v31 w'=>∃ (kZ:List (kC)) (aam:Int),v31 = .int .i64 aam∧aj (bV.l0 kq a0 a1 a2 kZ a2 aam=some (r1,r2))∧aj (kq≤kj3)∧aj (Kd.S qX 138 w' w.heap.size (fun _=>True) v8 kZ)∧aj (Below w.heap.size w w'))
    case atStart=>exact ⟨(([]:List (kC))),(0),zT,H',⟨Nat.le_refl _⟩,⟨by first|exact Kd.oL _ _ _ _ _|exact Kd.oW _ _ _ _ _|exact Kd.nP _ _ _ _ _|exact Kd.oZ _ _ _ _ _|exact Kd.jR _ _ _ _ _⟩,⟨zB⟩⟩
    case round =>
     clear H'
     obtain ⟨kZ,aam,rfl,HA,HK2,dK,HB⟩:=hrel
     cases gk with
     | zero=>exact absurd HA.out (by simp [bV.l0])
     | succ k2 =>
      have H:=HA.out
      clear HA
      simp only [bV.l0] at H
      by_cases c11:aam < a2
      ·rw [if_pos c11] at H
       have iH:=decide_eq_true c11
       clear c11
       replace H:=zO H
       obtain ⟨⟨ahz,ac5⟩,A12,H⟩:=H
       try dsimp only at H
       replace H:=zO H
       obtain ⟨⟨afL,afM⟩,A13,H⟩:=H
       try dsimp only at H
       by_cases c14:afM=0
       ·rw [if_pos c14] at H
        have abO:(afM == 0)=true:=beq_iff_eq.mpr c14
        have amO:(afM != 0)=false:=bne_eq_false_iff_eq.mpr c14
        clear c14
        by_cases c15:kZ.length < 4398046511104
        ·rw [if_pos c15] at H
         have amw:=aj.mk c15
         clear c15
         obtain ⟨asK,agH⟩:∃ y_:List (kC),y_=(kZ ++ [(⟨ahz,afL⟩:kC)]):=⟨_,rfl⟩
         replace H:(bV.l0 k2 a0 a1 a2 asK a2 (wrap64 (aam+1)))=some (r1,r2):=by first|(rw [agH];with_reducible exact H)|(have H2_:=(Option.bind_some _ _).symm.trans H;rw [agH];with_reducible exact H2_)|(have H2_:=(Option.bind_some _ _).symm.trans H;with_reducible exact H2_)|with_reducible exact H|(rw [agH];exact H)|exact H
         have auO:=aj.mk agH
         clear agH
         have H':=aj.mk H
         clear H
         go_wp2_with (first|((with_reducible refine ay (f:=114) rfl ?_);refine aH (some 39) rfl rfl Tryz.func114 (by kernel_rfl) rfl #[.int .i64 a0,.int .i64 a1,.int .i64 a2,.int .i64 aam] rfl zL ?_;(with_reducible refine (bU.calls k2 a0 a1 a2 aam ahz ac5 _ A12.out).mono ?_);rintro e w16 ⟨avK,rfl,ho0,hb⟩;refine ⟨_,rfl,?_⟩;obtain ⟨dK,sU,HB⟩:=zA3 (Kd.acH (by (with_reducible repeat (first|apply Kd.zY|apply Kd.zZ|apply Kd.abv));exact dK.out) (Kd.jf ho0) hb) (Kd.fQ ho0 (bJ zB)) (ak zB hb);(try clear hb);(try clear ho0);obtain ⟨amP,amQ,avL⟩:=Kd.fU sU.out;subst avL)|((with_reducible refine ay (f:=115) rfl ?_);refine aH (some 44) rfl rfl Tryz.func115 (by kernel_rfl) rfl #[.slice amP ac5.length amQ] rfl zL ?_;(with_reducible refine (aG.calls k2 _ _ ac5 afL afM _ ?iI ?iJ A13.out).mono ?_);(case iI=>repeat (first|exact (Kd.dH sU.out).2.2|(with_reducible refine Kd.jh ?_ _)|(with_reducible refine Kd.jE ?_ _)|(with_reducible refine Kd.kN ?_)));(case iJ=>exact (Kd.dH sU.out).2.1);rintro e w18 ⟨avM,rfl,ho0,hb⟩;refine ⟨_,rfl,?_⟩;obtain ⟨dK,sU,ai8,HB⟩:=zA4 (Kd.acH (by (with_reducible repeat (first|apply Kd.zY|apply Kd.zZ|apply Kd.abv));exact dK.out) (Kd.jf ho0) hb) (Kd.iE (by (with_reducible repeat (first|apply Kd.aJ|apply Kd.aK|apply Kd.aU));exact sU.out) (Kd.jf ho0) hb) (Kd.fQ (Kd.jO ho0 (Kd.lD (by (with_reducible repeat (first|apply Kd.aJ|apply Kd.aK|apply Kd.aU));exact sU.out))) (bJ zB)) (ak zB hb);(try clear hb);(try clear ho0);obtain ⟨akb,akc,akd⟩:=Kd.fU ai8.out;subst akd)|((with_reducible refine jG (b := .append) (xs := #[.tmp 50,.tmp 54]) rfl ?_);at_builtin;refine Kd.an5 qX (w0:=w) w.heap.size rfl (.tmp 50) (.tmp 54) 39 138 (.agg #[(.int .i64 0),(.slice none 0 0)]) 32 rfl Tryz.underlying39 aq3 rfl (by decide) (by omega) u8 kZ (⟨ahz,afL⟩:kC) [.int .i64 ahz,.slice akb afL.length akc] (fun k_=>some k_≠(.slice amP ac5.length amQ:Value).ownBlock) (fun k_=>some k_=(.slice akb afL.length akc:Value).ownBlock) rfl rfl ?aP (fun k_ hk_=>((Kd.dN (ok':=fun k_=>((fun k_=>some k_≠(.slice amP ac5.length amQ:Value).ownBlock)) k_∧some k_≠(u8:Value).ownBlock) (Kd.aji (ai8.out) (Kd.ahh dK.out) (by decide)) (fun k_ hk=>⟨hk.1.2,hk.2⟩))).1 k_ hk_.symm) ?aF ?aO ?aB ?aS ?aL ?_;(case aP=>exact ajp _ _ _ (⟨ahz,afL⟩:kC) (Kd.dN (Kd.aqZ rfl (Kd.dN (ok':=fun k_=>((fun k_=>some k_≠(.slice amP ac5.length amQ:Value).ownBlock)) k_∧some k_≠(u8:Value).ownBlock) (Kd.aji (ai8.out) (Kd.ahh dK.out) (by decide)) (fun k_ hk=>⟨hk.1.2,hk.2⟩))) (fun _ h_=>h_)));(case aB=>exact zB);(case aF=>exact (fun k_ hk=>Kd.fresh' (Kd.lD (by (with_reducible repeat (first|apply Kd.aJ|apply Kd.aK|apply Kd.aU));exact sU.out)) k_ hk));(case aO=>exact (by (with_reducible repeat (first|apply Kd.zY|apply Kd.zZ|apply Kd.abv));exact Kd.ano dK.out (fun k_ hk=>⟨hk.1.2,fun e_=>hk.2 e_⟩)));(case aS=>exact (bJ zB));(case aL=>have:=amw.out;omega);intro aAX w20 ho hb hg hat;rw [← auO.out] at ho;obtain ⟨sU,HB,auP⟩:=zA3 (Kd.aqY (by (with_reducible repeat (first|apply Kd.aJ|apply Kd.aK|apply Kd.aU));exact sU.out) (Kd.ahh (by (with_reducible repeat (first|apply Kd.zY|apply Kd.zZ|apply Kd.abv));exact dK.out)) (by decide) hg) hb ho;clear ho hb hg hat))
         go_roundg k2
         case measure=>have:=HJ3.out;have:=HK2.out;omega
         case rel=>exact ⟨(asK),(wrap64 (aam+1)),zT,H',⟨by have:=HJ3.out;have:=HK2.out;omega⟩,⟨by (with_reducible repeat (first|apply Kd.zY|apply Kd.zZ|apply Kd.abv));exact Kd.ano auP.out (fun _ hk=>trivial)⟩,⟨zB⟩⟩
        ·rw [if_neg c15] at H
         exact absurd H (by simp)
       ·rw [if_neg c14] at H
        have abO:(afM == 0)=false:=beq_eq_false_iff_ne.mpr c14
        have amO:(afM != 0)=true:=bne_iff_ne.mpr c14
        simp only [Option.some.injEq,Prod.mk.injEq] at H
        obtain ⟨rfl,rfl⟩:=H
        go_wp2_with (first|((with_reducible refine ay (f:=114) rfl ?_);refine aH (some 39) rfl rfl Tryz.func114 (by kernel_rfl) rfl #[.int .i64 a0,.int .i64 a1,.int .i64 a2,.int .i64 aam] rfl zL ?_;(with_reducible refine (bU.calls k2 a0 a1 a2 aam ahz ac5 _ A12.out).mono ?_);rintro e w21 ⟨avK,rfl,ho0,hb⟩;refine ⟨_,rfl,?_⟩;obtain ⟨dK,sU,HB⟩:=zA3 (Kd.acH (by (with_reducible repeat (first|apply Kd.zY|apply Kd.zZ|apply Kd.abv));exact dK.out) (Kd.jf ho0) hb) (Kd.fQ ho0 (bJ zB)) (ak zB hb);(try clear hb);(try clear ho0);obtain ⟨afG,wS,apc⟩:=Kd.fU sU.out;subst apc)|((with_reducible refine ay (f:=115) rfl ?_);refine aH (some 44) rfl rfl Tryz.func115 (by kernel_rfl) rfl #[.slice afG ac5.length wS] rfl zL ?_;(with_reducible refine (aG.calls k2 _ _ ac5 afL afM _ ?iI ?iJ A13.out).mono ?_);(case iI=>repeat (first|exact (Kd.dH sU.out).2.2|(with_reducible refine Kd.jh ?_ _)|(with_reducible refine Kd.jE ?_ _)|(with_reducible refine Kd.kN ?_)));(case iJ=>exact (Kd.dH sU.out).2.1);rintro e w23 ⟨avM,rfl,ho0,hb⟩;refine ⟨_,rfl,?_⟩;obtain ⟨dK,sU,ai8,HB⟩:=zA4 (Kd.acH (by (with_reducible repeat (first|apply Kd.zY|apply Kd.zZ|apply Kd.abv));exact dK.out) (Kd.jf ho0) hb) (Kd.iE (by (with_reducible repeat (first|apply Kd.aJ|apply Kd.aK|apply Kd.aU));exact sU.out) (Kd.jf ho0) hb) (Kd.fQ (Kd.jO ho0 (Kd.lD (by (with_reducible repeat (first|apply Kd.aJ|apply Kd.aK|apply Kd.aU));exact sU.out))) (bJ zB)) (ak zB hb);(try clear hb);(try clear ho0)))
        go_ret2
        exact ⟨_,zS,by first|exact Kd.oL _ _ _ _ _|exact Kd.oW _ _ _ _ _|exact Kd.nP _ _ _ _ _|exact Kd.oZ _ _ _ _ _|exact Kd.jR _ _ _ _ _,zB⟩
      ·rw [if_neg c11] at H
       have iH:=decide_eq_false c11
       clear c11
       simp only [Option.some.injEq,Prod.mk.injEq] at H
       obtain ⟨rfl,rfl⟩:=H
       go_wp2
       go_ret2
       exact ⟨_,zS,by (with_reducible repeat (first|apply Kd.zY|apply Kd.zZ|apply Kd.abv));exact dK.out,zB⟩
end Go.Proofs.YtpondkggmcmpfaaGreatDoor.QA
namespace Go.Proofs.YtpondkggmcmpfaaGreatDoor.QA
open Go.Proofs.YtpondkggmcmpfaaGreatDoor.T
open Go.RowKit Go.Proofs.YtpondkggmcmpfaaGreatDoorW.PrintWords Go.Proofs.YtpondkggmcmpfaaGreatDoorW.PrintLast Go.Proofs.YtpondkggmcmpfaaGreatDoorW.PrintMore
attribute [local go_sem] dZ dS dU fK fM
set_option linter.unusedVariables false
set_option linter.unusedSimpArgs false
mutual
def dM.j0:Nat→Int→Option (Int)
 | 0,_=>none
 | k+1,x0=>(dO.f k x0 762123384786).bind fun aaO=>(dM.l0 k aaO (wrap64 (x0 - (wrap64 (aaO*762123384786)))) 1099511627776 0 1099511627776 1)
def dM.l0:Nat→Int→Int→Int→Int→Int→Int→Option (Int)
 | 0,_,_,_,_,_,_=>none
 | k+1,x3,x4,x5,x6,x7,x8=>if x8≤16 then ((aV.f k x7 x4 (wrap64 (x8*1099511627776))).bind fun abw=>(if (Int.tmod x8 2)=1 then (dM.l0 k x3 x4 x5 (wrap64 (x6+abw)) abw (wrap64 (x8+1))) else (dM.l0 k x3 x4 (wrap64 (x5+abw)) x6 abw (wrap64 (x8+1))))) else ((aI.f k (wrap64 (x5 - x6)) x3).bind fun apm=>(some apm))
end
def dM.f (k:Nat) (a0:Int):Option (Int):=if a0 < 0 then (dM.j0 k 0) else (dM.j0 k a0)
set_option maxHeartbeats 8000000 in
set_option maxRecDepth 100000 in
theorem dM.calls (k:Nat) (a0 r:Int) (w:World) (h:dM.f k a0=some r) :
  Calls Tryz.prog 145 #[.int .i64 a0] w fun e w'=>e = .returned (.int .i64 r)∧Below w.heap.size w w':=by
 have HB:=aj.mk (Below.refl w.heap.size w)
 have H:=h
 clear h
 unfold dM.f at H
 have HC2:=aj.mk H
 clear H
 go_enter Tryz.func145,Tryz.ntmps145
 go_upto_if 10 with (fail)
 go_cut [0] (fun v0 wc=>∃ (kq:Nat) (aci:Int),v0 = .int .i64 aci∧aj (dM.j0 kq aci=some r)∧aj (kq≤k)∧aj (Below w.heap.size w wc))
 case first =>
  have H:=HC2.out
  clear HC2
  by_cases c3:a0 < 0
  ·rw [if_pos c3] at H
   have fP:=decide_eq_true c3
   clear c3
   (first|rw [fP]|(simp only [bY,cZ];rw [fP])|skip)
   have H':=aj.mk H
   clear H
   go_wp2
   go_meet
   case rel=>exact ⟨_,(0),zT,H',⟨by first|omega|exact Nat.le_refl _⟩,⟨zB⟩⟩
  ·rw [if_neg c3] at H
   have fP:=decide_eq_false c3
   clear c3
   (first|rw [fP]|(simp only [bY,cZ];rw [fP])|skip)
   have H':=aj.mk H
   clear H
   go_wp2
   go_meet
   case rel=>exact ⟨_,(a0),zT,H',⟨by first|omega|exact Nat.le_refl _⟩,⟨zB⟩⟩
 case rest =>
  clear HC2
  obtain ⟨kq,aci,rfl,HA,HJ1,HB⟩:=hcut
  cases kq with
  | zero=>exact absurd HA.out (by simp [dM.j0])
  | succ kj1 =>
   have H:=HA.out
   clear HA
   simp only [dM.j0] at H
   replace H:=zO H
   obtain ⟨aaO,A4,H⟩:=H
   try dsimp only at H
   have H':=aj.mk H
   clear H
   go_wp2_with (first|((with_reducible refine ay (f:=144) rfl ?_);refine aH (some 12) rfl rfl Tryz.func144 (by kernel_rfl) rfl #[.int .i64 aci,.int .i64 762123384786] rfl zL ?_;(with_reducible refine (dO.calls kj1 aci 762123384786 aaO _ A4.out).mono ?_);rintro e w5 ⟨rfl,hb⟩;refine ⟨_,rfl,?_⟩;replace HB:=aj.mk (ak zB hb);(try clear hb)))
   go_loopg [5,6,7,8] kj1 (fun kq v5 v6 v7 v8 w'=>∃ (mg:Int) (wU:Int) (zV:Int) (kZ:Int),v5 = .int .i64 mg∧v6 = .int .i64 wU∧v7 = .int .i64 zV∧v8 = .int .i64 kZ∧aj (dM.l0 kq aaO (wrap64 (aci - (wrap64 (aaO*762123384786)))) mg wU zV kZ=some r)∧aj (kq≤kj1)∧aj (Below w.heap.size w w'))
   case atStart=>exact ⟨(1099511627776),(0),(1099511627776),(1),zT,zT,zT,zT,H',⟨Nat.le_refl _⟩,⟨zB⟩⟩
   case round =>
    clear H'
    obtain ⟨mg,wU,zV,kZ,rfl,rfl,rfl,rfl,HA,HK2,HB⟩:=hrel
    cases gk with
    | zero=>exact absurd HA.out (by simp [dM.l0])
    | succ k2 =>
     have H:=HA.out
     clear HA
     simp only [dM.l0] at H
     by_cases c6:kZ≤16
     ·rw [if_pos c6] at H
      have gQ:=decide_eq_true c6
      clear c6
      replace H:=zO H
      obtain ⟨abw,A7,H⟩:=H
      try dsimp only at H
      by_cases c8:(Int.tmod kZ 2)=1
      ·rw [if_pos c8] at H
       have uy:((Int.tmod kZ 2) == 1)=true:=beq_iff_eq.mpr c8
       have abd:((Int.tmod kZ 2) != 1)=false:=bne_eq_false_iff_eq.mpr c8
       clear c8
       have H':=aj.mk H
       clear H
       go_wp2_with (first|((with_reducible refine ay (f:=118) rfl ?_);refine aH (some 25) rfl rfl Tryz.func118 (by kernel_rfl) rfl #[.int .i64 zV,.int .i64 (wrap64 (aci - (wrap64 (aaO*762123384786)))),.int .i64 (wrap64 (kZ*1099511627776))] rfl zL ?_;(with_reducible refine (aV.calls k2 zV (wrap64 (aci - (wrap64 (aaO*762123384786)))) (wrap64 (kZ*1099511627776)) abw _ A7.out).mono ?_);rintro e w9 ⟨rfl,hb⟩;refine ⟨_,rfl,?_⟩;replace HB:=aj.mk (ak zB hb);(try clear hb)))
       go_roundg k2
       case measure=>have:=HJ1.out;have:=HK2.out;omega
       case rel=>exact ⟨(mg),(wrap64 (wU+abw)),(abw),(wrap64 (kZ+1)),zT,zT,zT,zT,H',⟨by have:=HJ1.out;have:=HK2.out;omega⟩,⟨zB⟩⟩
      ·rw [if_neg c8] at H
       have uy:((Int.tmod kZ 2) == 1)=false:=beq_eq_false_iff_ne.mpr c8
       have abd:((Int.tmod kZ 2) != 1)=true:=bne_iff_ne.mpr c8
       have H':=aj.mk H
       clear H
       go_wp2_with (first|((with_reducible refine ay (f:=118) rfl ?_);refine aH (some 25) rfl rfl Tryz.func118 (by kernel_rfl) rfl #[.int .i64 zV,.int .i64 (wrap64 (aci - (wrap64 (aaO*762123384786)))),.int .i64 (wrap64 (kZ*1099511627776))] rfl zL ?_;(with_reducible refine (aV.calls k2 zV (wrap64 (aci - (wrap64 (aaO*762123384786)))) (wrap64 (kZ*1099511627776)) abw _ A7.out).mono ?_);rintro e w10 ⟨rfl,hb⟩;refine ⟨_,rfl,?_⟩;replace HB:=aj.mk (ak zB hb);(try clear hb)))
       go_roundg k2
       case measure=>have:=HJ1.out;have:=HK2.out;omega
       case rel=>exact ⟨(wrap64 (mg+abw)),(wU),(abw),(wrap64 (kZ+1)),zT,zT,zT,zT,H',⟨by have:=HJ1.out;have:=HK2.out;omega⟩,⟨zB⟩⟩
     ·rw [if_neg c6] at H
      have gQ:=decide_eq_false c6
      clear c6
      replace H:=zO H
      obtain ⟨apm,A11,H⟩:=H
      try dsimp only at H
      obtain rfl:=Option.some.inj H
      go_wp2_with (first|((with_reducible refine ay (f:=101) rfl ?_);refine aH (some 39) rfl rfl Tryz.func101 (by kernel_rfl) rfl #[.int .i64 (wrap64 (mg - wU)),.int .i64 aaO] rfl zL ?_;(with_reducible refine (aI.calls k2 (wrap64 (mg - wU)) aaO apm _ A11.out).mono ?_);rintro e w12 ⟨rfl,hb⟩;refine ⟨_,rfl,?_⟩;replace HB:=aj.mk (ak zB hb);(try clear hb)))
      go_ret
      exact ⟨zS,zB⟩
def mD.f (k:Nat) (a0 a1:Int):Option (Int):=if a1 < 1 then (some 9223372036854775807) else (if a1 > 4194304 then (some 9223372036854775807) else (if a0 < (-16384) then (some 9223372036854775807) else (if a0 > 16384 then (some 9223372036854775807) else ((aV.f k (wrap64 ((wrap64 (a0*a0))*2147483648)) 1099511627776 (wrap64 (a1*a1))).bind fun apn=>(some apn)))))
set_option maxHeartbeats 8000000 in
set_option maxRecDepth 100000 in
theorem mD.calls (k:Nat) (a0 a1 r:Int) (w:World) (h:mD.f k a0 a1=some r) :
  Calls Tryz.prog 146 #[.int .i64 a0,.int .i64 a1] w fun e w'=>e = .returned (.int .i64 r)∧Below w.heap.size w w':=by
 have HB:=aj.mk (Below.refl w.heap.size w)
 have H:=h
 clear h
 unfold mD.f at H
 by_cases c3:a1 < 1
 ·rw [if_pos c3] at H
  have fP:=decide_eq_true c3
  clear c3
  obtain rfl:=Option.some.inj H
  go_enter Tryz.func146,Tryz.ntmps146
  go_wp2
  go_ret
  exact ⟨zS,zB⟩
 ·rw [if_neg c3] at H
  have fP:=decide_eq_false c3
  clear c3
  by_cases c4:a1 > 4194304
  ·rw [if_pos c4] at H
   have fE:=decide_eq_true c4
   clear c4
   obtain rfl:=Option.some.inj H
   go_enter Tryz.func146,Tryz.ntmps146
   go_wp2
   go_ret
   exact ⟨zS,zB⟩
  ·rw [if_neg c4] at H
   have fE:=decide_eq_false c4
   clear c4
   by_cases c5:a0 < (-16384)
   ·rw [if_pos c5] at H
    have iw:=decide_eq_true c5
    clear c5
    obtain rfl:=Option.some.inj H
    go_enter Tryz.func146,Tryz.ntmps146
    go_wp2
    go_ret
    exact ⟨zS,zB⟩
   ·rw [if_neg c5] at H
    have iw:=decide_eq_false c5
    clear c5
    by_cases c6:a0 > 16384
    ·rw [if_pos c6] at H
     have gQ:=decide_eq_true c6
     clear c6
     obtain rfl:=Option.some.inj H
     go_enter Tryz.func146,Tryz.ntmps146
     go_wp2
     go_ret
     exact ⟨zS,zB⟩
    ·rw [if_neg c6] at H
     have gQ:=decide_eq_false c6
     clear c6
     replace H:=zO H
     obtain ⟨apn,A7,H⟩:=H
     try dsimp only at H
     obtain rfl:=Option.some.inj H
     go_enter Tryz.func146,Tryz.ntmps146
     go_wp2_with (first|((with_reducible refine ay (f:=118) rfl ?_);refine aH (some 26) rfl rfl Tryz.func118 (by kernel_rfl) rfl #[.int .i64 (wrap64 ((wrap64 (a0*a0))*2147483648)),.int .i64 1099511627776,.int .i64 (wrap64 (a1*a1))] rfl zL ?_;(with_reducible refine (aV.calls k (wrap64 ((wrap64 (a0*a0))*2147483648)) 1099511627776 (wrap64 (a1*a1)) apn _ A7.out).mono ?_);rintro e w8 ⟨rfl,hb⟩;refine ⟨_,rfl,?_⟩;replace HB:=aj.mk (ak zB hb);(try clear hb)))
     go_ret
     exact ⟨zS,zB⟩
def mF.f (k:Nat) (a0 a1:Int):Option (Int):=(mD.f k a0 a1).bind fun ake=>((dM.f k ake).bind fun akf=>((aI.f k akf 10).bind fun apo=>(some apo)))
set_option maxHeartbeats 8000000 in
set_option maxRecDepth 100000 in
theorem mF.calls (k:Nat) (a0 a1 r:Int) (w:World) (h:mF.f k a0 a1=some r) :
  Calls Tryz.prog 116 #[.int .i64 a0,.int .i64 a1] w fun e w'=>e = .returned (.int .i64 r)∧Below w.heap.size w w':=by
 have HB:=aj.mk (Below.refl w.heap.size w)
 have H:=h
 clear h
 unfold mF.f at H
 replace H:=zO H
 obtain ⟨ake,A3,H⟩:=H
 try dsimp only at H
 replace H:=zO H
 obtain ⟨akf,A4,H⟩:=H
 try dsimp only at H
 replace H:=zO H
 obtain ⟨apo,A5,H⟩:=H
 try dsimp only at H
 obtain rfl:=Option.some.inj H
 go_enter Tryz.func116,Tryz.ntmps116
 go_wp2_with (first|((with_reducible refine ay (f:=146) rfl ?_);refine aH (some 7) rfl rfl Tryz.func146 (by kernel_rfl) rfl #[.int .i64 a0,.int .i64 a1] rfl zL ?_;(with_reducible refine (mD.calls k a0 a1 ake _ A3.out).mono ?_);rintro e w6 ⟨rfl,hb⟩;refine ⟨_,rfl,?_⟩;replace HB:=aj.mk (ak zB hb);(try clear hb))|((with_reducible refine ay (f:=145) rfl ?_);refine aH (some 8) rfl rfl Tryz.func145 (by kernel_rfl) rfl #[.int .i64 ake] rfl zL ?_;(with_reducible refine (dM.calls k ake akf _ A4.out).mono ?_);rintro e w7 ⟨rfl,hb⟩;refine ⟨_,rfl,?_⟩;replace HB:=aj.mk (ak zB hb);(try clear hb))|((with_reducible refine ay (f:=101) rfl ?_);refine aH (some 9) rfl rfl Tryz.func101 (by kernel_rfl) rfl #[.int .i64 akf,.int .i64 10] rfl zL ?_;(with_reducible refine (aI.calls k akf 10 apo _ A5.out).mono ?_);rintro e w8 ⟨rfl,hb⟩;refine ⟨_,rfl,?_⟩;replace HB:=aj.mk (ak zB hb);(try clear hb)))
 go_ret
 exact ⟨zS,zB⟩
end Go.Proofs.YtpondkggmcmpfaaGreatDoor.QA
namespace Go.Proofs.YtpondkggmcmpfaaGreatDoor.QA
open Go.Proofs.YtpondkggmcmpfaaGreatDoor.T
open Go.RowKit Go.Proofs.YtpondkggmcmpfaaGreatDoorW.PrintWords Go.Proofs.YtpondkggmcmpfaaGreatDoorW.PrintLast Go.Proofs.YtpondkggmcmpfaaGreatDoorW.PrintMore
attribute [local go_sem] dZ dS dU fK fM
set_option linter.unusedVariables false
set_option linter.unusedSimpArgs false
mutual
def aY.j0:Nat→Int→Bool→Option (List Int × Int)
 | 0,_,_=>none
 | k+1,x0,x12=>if x12=true then (some (([]:List Int),7)) else (aY.l0 k x0 0)
def aY.l0:Nat→Int→Int→Option (List Int × Int)
 | 0,_,_=>none
 | k+1,x0,x4=>if (wrap64 (x4*65536)) < (wrap64 (3*x0)) then (aY.l0 k x0 (wrap64 (x4+1))) else (aY.l1 k x0 x4 ([]:List Int) (wrap64 (-x4)))
def aY.l1:Nat→Int→Int→List Int→Int→Option (List Int × Int)
 | 0,_,_,_,_=>none
 | k+1,x0,x4,x5,x6=>if x6≤x4 then ((mF.f k x6 x0).bind fun ahA=>(if x5.length < 17592186044416 then (aY.l1 k x0 x4 (x5 ++ [ahA]) (wrap64 (x6+1))) else (none))) else (some (x5,0))
end
def aY.f (k:Nat) (a0:Int):Option (List Int × Int):=if a0 < 1 then (aY.j0 k a0 true) else (aY.j0 k a0 (decide (a0 > 4194304)))
set_option maxHeartbeats 8000000 in
set_option maxRecDepth 100000 in
theorem aY.calls (k:Nat) (a0:Int) (r1:List Int) (r2:Int) (w:World) (h:aY.f k a0=some (r1,r2)) :
  Calls Tryz.prog 94 #[.int .i64 a0] w fun e w'=>∃ v0_:Value,e = .returned (.tuple #[v0_,.int .i64 r2])∧Kd.R (Kd.int .i64) 2 w' w.heap.size (fun _=>True) v0_ r1∧Below w.heap.size w w':=by
 have HB:=aj.mk (Below.refl w.heap.size w)
 have H:=h
 clear h
 unfold aY.f at H
 have HC2:=aj.mk H
 clear H
 go_enter Tryz.func94,Tryz.ntmps94
 go_upto_region 1 with (fail)
 go_cut [12] (fun v12 wc=>∃ (kq:Nat) (aaV:Bool),v12 = .bool aaV∧aj (aY.j0 kq a0 aaV=some (r1,r2))∧aj (kq≤k)∧aj (Below w.heap.size w wc))
 case first =>
  have H:=HC2.out
  clear HC2
  by_cases c3:a0 < 1
  ·rw [if_pos c3] at H
   have fP:=decide_eq_true c3
   clear c3
   (first|rw [fP]|(simp only [bY,cZ];rw [fP])|skip)
   have H':=aj.mk H
   clear H
   go_wp2
   go_meet
   case rel=>exact ⟨_,(true),zT,H',⟨by first|omega|exact Nat.le_refl _⟩,⟨zB⟩⟩
  ·rw [if_neg c3] at H
   have fP:=decide_eq_false c3
   clear c3
   (first|rw [fP]|(simp only [bY,cZ];rw [fP])|skip)
   have H':=aj.mk H
   clear H
   go_wp2
   go_meet
   case rel=>exact ⟨_,(decide (a0 > 4194304)),zT,H',⟨by first|omega|exact Nat.le_refl _⟩,⟨zB⟩⟩
 case rest =>
  clear HC2
  obtain ⟨kq,aaV,rfl,HA,HJ1,HB⟩:=hcut
  cases kq with
  | zero=>exact absurd HA.out (by simp [aY.j0])
  | succ kj1 =>
   have H:=HA.out
   clear HA
   simp only [aY.j0] at H
   by_cases c4:aaV=true
   ·subst c4
    rw [if_pos rfl] at H;try dsimp only at H
    simp only [Option.some.injEq,Prod.mk.injEq] at H
    obtain ⟨rfl,rfl⟩:=H
    go_wp2
    go_ret2
    exact ⟨_,zS,by first|exact Kd.jR _ _ _ _ _|exact Kd.oW _ _ _ _ _|exact Kd.nP _ _ _ _ _|exact Kd.oZ _ _ _ _ _|exact Kd.oL _ _ _ _ _,zB⟩
   ·replace c4:=Bool.eq_false_iff.mpr c4
    subst c4
    rw [if_neg (show ¬ (false=true) by decide)] at H;try dsimp only at H
    have H':=aj.mk H
    clear H
    go_wp2
    go_loopg [4] kj1 (fun kq v4 w'=>∃ (vg:Int),v4 = .int .i64 vg∧aj (aY.l0 kq a0 vg=some (r1,r2))∧aj (kq≤kj1)∧aj (Below w.heap.size w w'))
    case atStart=>exact ⟨(0),zT,H',⟨Nat.le_refl _⟩,⟨zB⟩⟩
    case round =>
     clear H'
     obtain ⟨vg,rfl,HA,HK2,HB⟩:=hrel
     cases gk with
     | zero=>exact absurd HA.out (by simp [aY.l0])
     | succ k2 =>
      have H:=HA.out
      clear HA
      simp only [aY.l0] at H
      by_cases c5:(wrap64 (vg*65536)) < (wrap64 (3*a0))
      ·rw [if_pos c5] at H
       have iw:=decide_eq_true c5
       clear c5
       have H':=aj.mk H
       clear H
       go_wp2
       go_roundg k2
       case measure=>have:=HJ1.out;have:=HK2.out;omega
       case rel=>exact ⟨(wrap64 (vg+1)),zT,H',⟨by have:=HJ1.out;have:=HK2.out;omega⟩,⟨zB⟩⟩
      ·rw [if_neg c5] at H
       have iw:=decide_eq_false c5
       clear c5
       have H':=aj.mk H
       clear H
       go_wp2
       try simp only [Act.put,List.setIfInBounds_toArray,List.set_cons_succ,List.set_cons_zero]
       go_loopg [5,6] k2 (fun kq v5 v6 w'=>∃ (ahB:List Int) (aej:Int),v6 = .int .i64 aej∧aj (aY.l1 kq a0 vg ahB aej=some (r1,r2))∧aj (kq≤k2)∧aj (Kd.R (Kd.int .i64) 2 w' w.heap.size (fun _=>True) v5 ahB)∧aj (Below w.heap.size w w'))
       case atStart=>exact ⟨(([]:List Int)),(wrap64 (-vg)),zT,H',⟨Nat.le_refl _⟩,⟨by first|exact Kd.jR _ _ _ _ _|exact Kd.oW _ _ _ _ _|exact Kd.nP _ _ _ _ _|exact Kd.oZ _ _ _ _ _|exact Kd.oL _ _ _ _ _⟩,⟨zB⟩⟩
       case round =>
        clear H'
        obtain ⟨ahB,aej,rfl,HA,HK3,wB,HB⟩:=hrel
        cases gk with
        | zero=>exact absurd HA.out (by simp [aY.l1])
        | succ k3 =>
         have H:=HA.out
         clear HA
         simp only [aY.l1] at H
         by_cases c6:aej≤vg
         ·rw [if_pos c6] at H
          have gQ:=decide_eq_true c6
          clear c6
          replace H:=zO H
          obtain ⟨ahA,A7,H⟩:=H
          try dsimp only at H
          by_cases c8:ahB.length < 17592186044416
          ·rw [if_pos c8] at H
           have avN:=aj.mk c8
           clear c8
           obtain ⟨asL,agI⟩:∃ y_:List Int,y_=(ahB ++ [ahA]):=⟨_,rfl⟩
           replace H:(aY.l1 k3 a0 vg asL (wrap64 (aej+1)))=some (r1,r2):=by first|(rw [agI];with_reducible exact H)|(have H2_:=(Option.bind_some _ _).symm.trans H;rw [agI];with_reducible exact H2_)|(have H2_:=(Option.bind_some _ _).symm.trans H;with_reducible exact H2_)|with_reducible exact H|(rw [agI];exact H)|exact H
           have auQ:=aj.mk agI
           clear agI
           have H':=aj.mk H
           clear H
           go_wp2_with (first|((with_reducible refine ay (f:=116) rfl ?_);refine aH (some 30) rfl rfl Tryz.func116 (by kernel_rfl) rfl #[.int .i64 aej,.int .i64 a0] rfl zL ?_;(with_reducible refine (mF.calls k3 aej a0 ahA _ A7.out).mono ?_);rintro e w9 ⟨rfl,hb⟩;refine ⟨_,rfl,?_⟩;obtain ⟨wB,HB⟩:=zA2 (Kd.jA (by (with_reducible repeat (first|apply Kd.aJ|apply Kd.aK|apply Kd.aU));exact wB.out) hb) (ak zB hb);(try clear hb))|((with_reducible refine jG (b := .append) (xs := #[.tmp 27,.tmp 31]) rfl ?_);at_builtin;refine Kd.kJ (Kd.int .i64) (w0:=w) w.heap.size rfl (.tmp 27) (.tmp 31) 44 2 (.int .i64 0) 8 rfl Tryz.underlying44 vC rfl (by decide) (by omega) u5 ahB ahA [.int .i64 ahA] (fun _=>True) (fun _=>False) rfl rfl ?aP (fun _ hk=>hk.elim) ?aF ?aO ?aB ?aS ?aL ?_;(case aP=>exact rfl);(case aB=>exact zB);(case aF=>exact (fun _ _=>trivial));(case aO=>exact (by (with_reducible repeat (first|apply Kd.aJ|apply Kd.aK|apply Kd.aU));exact wB.out));(case aS=>exact (bJ zB));(case aL=>have:=avN.out;omega);intro aAY w10 ho hb hg hat;rw [← auQ.out] at ho;obtain ⟨HB,auR⟩:=zA2 hb ho;clear ho hb hg hat))
           go_roundg k3
           case measure=>have:=HJ1.out;have:=HK2.out;have:=HK3.out;omega
           case rel=>exact ⟨(asL),(wrap64 (aej+1)),zT,H',⟨by have:=HJ1.out;have:=HK2.out;have:=HK3.out;omega⟩,⟨by (with_reducible repeat (first|apply Kd.aJ|apply Kd.aK|apply Kd.aU));exact auR.out⟩,⟨zB⟩⟩
          ·rw [if_neg c8] at H
           exact absurd H (by simp)
         ·rw [if_neg c6] at H
          have gQ:=decide_eq_false c6
          clear c6
          simp only [Option.some.injEq,Prod.mk.injEq] at H
          obtain ⟨rfl,rfl⟩:=H
          go_wp2
          go_ret2
          exact ⟨_,zS,by (with_reducible repeat (first|apply Kd.aJ|apply Kd.aK|apply Kd.aU));exact wB.out,zB⟩
def gX.l0:Nat→Int→List Int→Int→Int→Option (Int)
 | 0,_,_,_,_=>none
 | k+1,x3,x6,x7,x8=>if x8 < x7 then (if 0≤x8 then (if x8 < (x6.length:Int) then ((iF.f (rd x6 x8)).bind fun akg=>((gB.f k x3 akg).bind fun amR=>(gX.l0 k amR x6 x7 (wrap64 (x8+1))))) else (none)) else (none)) else (some x3)
def gX.f (k:Nat) (l0:List Int):Option (Int):=gX.l0 k 0 l0 (l0.length:Int) 0
set_option maxHeartbeats 8000000 in
set_option maxRecDepth 100000 in
theorem gX.calls (k:Nat) (A0:Option Addr) (c0:Nat) (l0:List Int) (r:Int) (w:World) (hr0:Kd.C (Kd.int .i64) w A0 l0.length l0) (hc0:l0.length≤c0) (h:gX.f k l0=some r) :
  Calls Tryz.prog 117 #[.slice A0 l0.length c0] w fun e w'=>e = .returned (.int .i64 r)∧dw w w':=by
 have HR0:=aj.mk hr0
 have HC0:=aj.mk hc0
 clear hr0 hc0
 have H:=h
 clear h
 unfold gX.f at H
 have H':=aj.mk H
 clear H
 go_enter Tryz.func117,Tryz.ntmps117
 go_wp2
 go_loopg [3,8] k (fun kq v3 v8 w'=>∃ (qN:Int) (gK:Int),v3 = .int .i64 qN∧v8 = .int .i64 gK∧aj (gX.l0 kq qN l0 (l0.length:Int) gK=some r)∧aj (kq≤k)∧dw w w')
 case atStart=>exact ⟨(0),(0),zT,zT,H',⟨Nat.le_refl _⟩,zW⟩
 case round =>
  clear H'
  obtain ⟨qN,gK,rfl,rfl,HA,HK1,⟨m1,rfl⟩⟩:=hrel
  cases gk with
  | zero=>exact absurd HA.out (by simp [gX.l0])
  | succ k1 =>
   have H:=HA.out
   clear HA
   simp only [gX.l0] at H
   by_cases c2:gK < (l0.length:Int)
   ·rw [if_pos c2] at H
    have mZ:=decide_eq_true c2
    clear c2
    by_cases c3:0≤gK
    ·rw [if_pos c3] at H
     have fP:=decide_eq_true c3
     clear c3
     by_cases c4:gK < (l0.length:Int)
     ·rw [if_pos c4] at H
      have fE:=decide_eq_true c4
      clear c4
      replace H:=zO H
      obtain ⟨akg,A5,H⟩:=H
      try dsimp only at H
      replace H:=zO H
      obtain ⟨amR,A6,H⟩:=H
      try dsimp only at H
      have H':=aj.mk H
      clear H
      have apq:0≤(gK:Int):=of_decide_eq_true (by first|(with_reducible assumption)|assumption)
      have apr:gK < (l0.length:Int):=of_decide_eq_true (by first|(with_reducible assumption)|assumption)
      obtain ⟨az7,avO,axF⟩:=Kd.jF HR0.out gK apq apr
      cases avO
      replace apq:=eq_true apq
      replace apr:=eq_true apr
      go_wp2_with (first|((with_reducible refine ay (f:=142) rfl ?_);refine aH (some 14) rfl rfl Tryz.func142 (by kernel_rfl) rfl #[.int .i64 (rd l0 gK)] rfl zL ?_;(with_reducible refine (iF.calls (rd l0 gK) akg _ A5.out).mono ?_);rintro e w' ⟨rfl,⟨nd,rfl⟩⟩;refine ⟨_,rfl,?_⟩)|((with_reducible refine ay (f:=147) rfl ?_);refine aH (some 15) rfl rfl Tryz.func147 (by kernel_rfl) rfl #[.int .i64 qN,.int .i64 akg] rfl zL ?_;(with_reducible refine (gB.calls k1 qN akg amR _ A6.out).mono ?_);rintro e w' ⟨rfl,⟨nd,rfl⟩⟩;refine ⟨_,rfl,?_⟩))
      go_roundg k1
      case measure=>have:=HK1.out;omega
      case rel=>exact ⟨(amR),(wrap64 (gK+1)),zT,zT,H',⟨by have:=HK1.out;omega⟩,zW⟩
     ·rw [if_neg c4] at H
      exact absurd H (by simp)
    ·rw [if_neg c3] at H
     exact absurd H (by simp)
   ·rw [if_neg c2] at H
    have mZ:=decide_eq_false c2
    clear c2
    obtain rfl:=Option.some.inj H
    go_wp2
    go_ret
    exact ⟨zT,zW⟩
end Go.Proofs.YtpondkggmcmpfaaGreatDoor.QA
namespace Go.Proofs.YtpondkggmcmpfaaGreatDoor.QA
open Go.Proofs.YtpondkggmcmpfaaGreatDoor.T
open Go.RowKit Go.Proofs.YtpondkggmcmpfaaGreatDoorW.PrintWords Go.Proofs.YtpondkggmcmpfaaGreatDoorW.PrintLast Go.Proofs.YtpondkggmcmpfaaGreatDoorW.PrintMore
attribute [local go_sem] dZ dS dU fK fM
set_option linter.unusedVariables false
set_option linter.unusedSimpArgs false
mutual
def bH.j0:Nat→List Int→Int→Bool→Option (List Int × Int)
 | 0,_,_,_=>none
 | k+1,x0,x4,x26=>if x26=true then (some (([]:List Int),7)) else (bH.l0 k x4 ([]:List Int) x0 (x0.length:Int) 0)
def bH.l0:Nat→Int→List Int→List Int→Int→Int→Option (List Int × Int)
 | 0,_,_,_,_,_=>none
 | k+1,x4,x5,x27,x28,x29=>if x29 < x28 then (if 0≤x29 then (if x29 < (x27.length:Int) then ((aV.f k (rd x27 x29) 1073741824 x4).bind fun ahC=>(if x5.length < 17592186044416 then (bH.l0 k x4 (x5 ++ [ahC]) x27 x28 (wrap64 (x29+1))) else (none))) else (none)) else (none)) else (some (x5,0))
end
def bH.f (k:Nat) (l0:List Int):Option (List Int × Int):=(gX.f k l0).bind fun uI=>(if ((l0.length:Int) % 2)=0 then (bH.j0 k l0 uI true) else (if (l0.length:Int) > 1024 then (bH.j0 k l0 uI true) else (if uI=0 then (bH.j0 k l0 uI true) else (bH.j0 k l0 uI (decide (uI > 1048576))))))
set_option maxHeartbeats 8000000 in
set_option maxRecDepth 100000 in
theorem bH.calls (k:Nat) (A0:Option Addr) (c0:Nat) (l0 r1:List Int) (r2:Int) (w:World) (hr0:Kd.C (Kd.int .i64) w A0 l0.length l0) (hc0:l0.length≤c0) (h:bH.f k l0=some (r1,r2)) :
  Calls Tryz.prog 96 #[.slice A0 l0.length c0] w fun e w'=>∃ v0_:Value,e = .returned (.tuple #[v0_,.int .i64 r2])∧Kd.R (Kd.int .i64) 2 w' w.heap.size (fun _=>True) v0_ r1∧Below w.heap.size w w':=by
 have HR0:=aj.mk hr0
 have HC0:=aj.mk hc0
 clear hr0 hc0
 have HB:=aj.mk (Below.refl w.heap.size w)
 have H:=h
 clear h
 unfold bH.f at H
 replace H:=zO H
 obtain ⟨uI,A2,H⟩:=H
 try dsimp only at H
 have HC3:=aj.mk H
 clear H
 go_enter Tryz.func96,Tryz.ntmps96
 go_upto_region 2 with (first|((with_reducible refine ay (f:=117) rfl ?_);refine aH (some 9) rfl rfl Tryz.func117 (by kernel_rfl) rfl #[.slice A0 l0.length c0] rfl zL ?_;(with_reducible refine (gX.calls k _ _ l0 uI _ ?iI ?iJ A2.out).mono ?_);(case iI=>repeat (first|exact HR0.out|(with_reducible refine Kd.jh ?_ _)|(with_reducible refine Kd.jE ?_ _)|(with_reducible refine Kd.kN ?_)));(case iJ=>exact HC0.out);rintro e w' ⟨rfl,⟨nd,rfl⟩⟩;refine ⟨_,rfl,?_⟩))
 (try simp only [Act.put,List.setIfInBounds_toArray,List.set_cons_zero,List.set_cons_succ])
 go_cut [26] (fun v26 wc=>∃ (kq:Nat) (aaW:Bool),v26 = .bool aaW∧aj (bH.j0 kq l0 uI aaW=some (r1,r2))∧aj (kq≤k)∧aj (Below w.heap.size w wc))
 case first =>
  have H:=HC3.out
  clear HC3
  by_cases c4:((l0.length:Int) % 2)=0
  ·rw [if_pos c4] at H
   have fE:(((l0.length:Int) % 2) == 0)=true:=beq_iff_eq.mpr c4
   have zy:(((l0.length:Int) % 2) != 0)=false:=bne_eq_false_iff_eq.mpr c4
   clear c4
   (first|rw [fE]|(simp only [bY,cZ];rw [fE])|skip)
   have H':=aj.mk H
   clear H
   go_wp2
   go_meet
   case rel=>exact ⟨_,(true),zT,H',⟨by first|omega|exact Nat.le_refl _⟩,⟨zB⟩⟩
  ·rw [if_neg c4] at H
   have fE:(((l0.length:Int) % 2) == 0)=false:=beq_eq_false_iff_ne.mpr c4
   have zy:(((l0.length:Int) % 2) != 0)=true:=bne_iff_ne.mpr c4
   (first|rw [fE]|(simp only [bY,cZ];rw [fE])|skip)
   by_cases c5:(l0.length:Int) > 1024
   ·rw [if_pos c5] at H
    have iw:=decide_eq_true c5
    have abo:decide (1024 < l0.length)=true:=decide_eq_true (by omega)
    clear c5
    have H':=aj.mk H
    clear H
    go_wp2
    go_meet
    case rel=>exact ⟨_,(true),zT,H',⟨by first|omega|exact Nat.le_refl _⟩,⟨zB⟩⟩
   ·rw [if_neg c5] at H
    have iw:=decide_eq_false c5
    have abo:decide (1024 < l0.length)=false:=decide_eq_false (by omega)
    clear c5
    by_cases c6:uI=0
    ·rw [if_pos c6] at H
     have gQ:(uI == 0)=true:=beq_iff_eq.mpr c6
     have uw:(uI != 0)=false:=bne_eq_false_iff_eq.mpr c6
     clear c6
     have H':=aj.mk H
     clear H
     go_wp2
     go_meet
     case rel=>exact ⟨_,(true),zT,H',⟨by first|omega|exact Nat.le_refl _⟩,⟨zB⟩⟩
    ·rw [if_neg c6] at H
     have gQ:(uI == 0)=false:=beq_eq_false_iff_ne.mpr c6
     have uw:(uI != 0)=true:=bne_iff_ne.mpr c6
     have H':=aj.mk H
     clear H
     go_wp2
     go_meet
     case rel=>exact ⟨_,(decide (uI > 1048576)),zT,H',⟨by first|omega|exact Nat.le_refl _⟩,⟨zB⟩⟩
 case rest =>
  clear HC3
  obtain ⟨kq,aaW,rfl,HA,HJ2,HB⟩:=hcut
  cases kq with
  | zero=>exact absurd HA.out (by simp [bH.j0])
  | succ kj2 =>
   have H:=HA.out
   clear HA
   simp only [bH.j0] at H
   by_cases c7:aaW=true
   ·subst c7
    rw [if_pos rfl] at H;try dsimp only at H
    simp only [Option.some.injEq,Prod.mk.injEq] at H
    obtain ⟨rfl,rfl⟩:=H
    go_wp2
    go_ret2
    exact ⟨_,zS,by first|exact Kd.jR _ _ _ _ _|exact Kd.oW _ _ _ _ _|exact Kd.nP _ _ _ _ _|exact Kd.oZ _ _ _ _ _|exact Kd.oL _ _ _ _ _,zB⟩
   ·replace c7:=Bool.eq_false_iff.mpr c7
    subst c7
    rw [if_neg (show ¬ (false=true) by decide)] at H;try dsimp only at H
    have H':=aj.mk H
    clear H
    go_wp2
    go_loopg [5,29] kj2 (fun kq v5 v29 w'=>∃ (mg:List Int) (lW:Int),v29 = .int .i64 lW∧aj (bH.l0 kq uI mg l0 (l0.length:Int) lW=some (r1,r2))∧aj (kq≤kj2)∧aj (Kd.R (Kd.int .i64) 2 w' w.heap.size (fun _=>True) v5 mg)∧aj (Below w.heap.size w w'))
    case atStart=>exact ⟨(([]:List Int)),(0),zT,H',⟨Nat.le_refl _⟩,⟨by first|exact Kd.jR _ _ _ _ _|exact Kd.oW _ _ _ _ _|exact Kd.nP _ _ _ _ _|exact Kd.oZ _ _ _ _ _|exact Kd.oL _ _ _ _ _⟩,⟨zB⟩⟩
    case round =>
     clear H'
     obtain ⟨mg,lW,rfl,HA,HK2,wB,HB⟩:=hrel
     cases gk with
     | zero=>exact absurd HA.out (by simp [bH.l0])
     | succ k2 =>
      have H:=HA.out
      clear HA
      simp only [bH.l0] at H
      by_cases c8:lW < (l0.length:Int)
      ·rw [if_pos c8] at H
       have uy:=decide_eq_true c8
       clear c8
       by_cases c9:0≤lW
       ·rw [if_pos c9] at H
        have pz:=decide_eq_true c9
        clear c9
        by_cases c10:lW < (l0.length:Int)
        ·rw [if_pos c10] at H
         have pX:=decide_eq_true c10
         clear c10
         replace H:=zO H
         obtain ⟨ahC,A11,H⟩:=H
         try dsimp only at H
         by_cases c12:mg.length < 17592186044416
         ·rw [if_pos c12] at H
          have auS:=aj.mk c12
          clear c12
          obtain ⟨asM,agJ⟩:∃ y_:List Int,y_=(mg ++ [ahC]):=⟨_,rfl⟩
          replace H:(bH.l0 k2 uI asM l0 (l0.length:Int) (wrap64 (lW+1)))=some (r1,r2):=by first|(rw [agJ];with_reducible exact H)|(have H2_:=(Option.bind_some _ _).symm.trans H;rw [agJ];with_reducible exact H2_)|(have H2_:=(Option.bind_some _ _).symm.trans H;with_reducible exact H2_)|with_reducible exact H|(rw [agJ];exact H)|exact H
          have auT:=aj.mk agJ
          clear agJ
          have H':=aj.mk H
          clear H
          have aps:0≤(lW:Int):=of_decide_eq_true (by first|(with_reducible assumption)|assumption)
          have apt:lW < (l0.length:Int):=of_decide_eq_true (by first|(with_reducible assumption)|assumption)
          obtain ⟨az8,avP,ahD⟩:=Kd.jF HR0.out lW aps apt
          cases avP
          replace ahD:=(HB.out.cell (World.block_lt_of_cell? w _ ahD)).trans ahD
          replace aps:=eq_true aps
          replace apt:=eq_true apt
          go_wp2_with (first|((with_reducible refine ay (f:=118) rfl ?_);refine aH (some 36) rfl rfl Tryz.func118 (by kernel_rfl) rfl #[.int .i64 (rd l0 lW),.int .i64 1073741824,.int .i64 uI] rfl zL ?_;(with_reducible refine (aV.calls k2 (rd l0 lW) 1073741824 uI ahC _ A11.out).mono ?_);rintro e w13 ⟨rfl,hb⟩;refine ⟨_,rfl,?_⟩;obtain ⟨wB,HB⟩:=zA2 (Kd.jA (by (with_reducible repeat (first|apply Kd.aJ|apply Kd.aK|apply Kd.aU));exact wB.out) hb) (ak zB hb);(try clear hb))|((with_reducible refine jG (b := .append) (xs := #[.tmp 33,.tmp 37]) rfl ?_);(try (refine kK (by rfl) ?_;dsimp only));at_builtin;refine Kd.kJ (Kd.int .i64) (w0:=w) w.heap.size rfl (.tmp 33) (.tmp 37) 44 2 (.int .i64 0) 8 rfl Tryz.underlying44 vC rfl (by decide) (by omega) u5 mg ahC [.int .i64 ahC] (fun _=>True) (fun _=>False) rfl rfl ?aP (fun _ hk=>hk.elim) ?aF ?aO ?aB ?aS ?aL ?_;(case aP=>exact rfl);(case aB=>exact zB);(case aF=>exact (fun _ _=>trivial));(case aO=>exact (by (with_reducible repeat (first|apply Kd.aJ|apply Kd.aK|apply Kd.aU));exact wB.out));(case aS=>exact (bJ zB));(case aL=>have:=auS.out;omega);intro aAZ w14 ho hb hg hat;rw [← auT.out] at ho;obtain ⟨HB,auU⟩:=zA2 hb ho;clear ho hb hg hat))
          go_roundg k2
          case measure=>have:=HJ2.out;have:=HK2.out;omega
          case rel=>exact ⟨(asM),(wrap64 (lW+1)),zT,H',⟨by have:=HJ2.out;have:=HK2.out;omega⟩,⟨by (with_reducible repeat (first|apply Kd.aJ|apply Kd.aK|apply Kd.aU));exact auU.out⟩,⟨zB⟩⟩
         ·rw [if_neg c12] at H
          exact absurd H (by simp)
        ·rw [if_neg c10] at H
         exact absurd H (by simp)
       ·rw [if_neg c9] at H
        exact absurd H (by simp)
      ·rw [if_neg c8] at H
       have uy:=decide_eq_false c8
       clear c8
       simp only [Option.some.injEq,Prod.mk.injEq] at H
       obtain ⟨rfl,rfl⟩:=H
       go_wp2
       go_ret2
       exact ⟨_,zS,by (with_reducible repeat (first|apply Kd.aJ|apply Kd.aK|apply Kd.aU));exact wB.out,zB⟩
end Go.Proofs.YtpondkggmcmpfaaGreatDoor.QA
