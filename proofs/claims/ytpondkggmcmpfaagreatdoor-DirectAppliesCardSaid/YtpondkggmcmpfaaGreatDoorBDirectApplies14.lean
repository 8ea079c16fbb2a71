/- Joined by wip/tools/bundle.py out of: QAx35 QAx36 QAx37 QAx38 QAx39 QAx40. -/
import Derived.Test.YtpondkggmcmpfaaGreatDoorBDirectApplies13
import Derived.Test.YtpondkggmcmpfaaGreatDoorBDirectApplies3
set_option maxHeartbeats 8000000
set_option maxRecDepth 100000
namespace Go.Proofs.YtpondkggmcmpfaaGreatDoor.QA
open Go.Proofs.YtpondkggmcmpfaaGreatDoor.T
open Go.RowKit Go.Proofs.YtpondkggmcmpfaaGreatDoorW.PrintWords Go.Proofs.YtpondkggmcmpfaaGreatDoorW.PrintLast Go.Proofs.YtpondkggmcmpfaaGreatDoorW.PrintMore
attribute [local go_sem] dV dN dO fA fB
set_option linter.unusedVariables false
set_option linter.unusedSimpArgs false
def fC.j0:Nat->Bool->Bool->Int->Int->Option (Int)
 | 0,_,_,_,_=>none
 | k+1,x7,x28,aql,aqm=>if x28=true then ((iL.f aql aqm 0 1).bind fun axg=>((cZ.f k axg.1 axg.2 x7).bind fun aoB=>(some aoB))) else ((cZ.f k aql aqm x7).bind fun aoC=>(some aoC))
def fC.f (k:Nat) (a0 a1:Int):Option (Int):=if a1=0 then (some 0) else ((dW.f a0).bind fun ahj=>((dW.f a1).bind fun ahk=>((fP.f k 0 ahj ahk).bind fun aj6=>(if ((decide (a0 < 0)) != (decide (a1 < 0)))=true then (fC.j0 k ((decide (a0 < 0)) != (decide (a1 < 0))) (decide (aj6.2.2 > 0)) aj6.1 aj6.2.1) else (fC.j0 k ((decide (a0 < 0)) != (decide (a1 < 0))) false aj6.1 aj6.2.1)))))
theorem fC.calls (k:Nat) (a0 a1 r:Int) (w:World) (h:fC.f k a0 a1=some r) :
  Calls Tryz.prog 144 #[.int .i64 a0,.int .i64 a1] w fun e w'=>e = .returned (.int .i64 r)/\Below w.heap.size w w':=by
 have aaJ:=Tryz.underlying179;have HB:=aj.mk (Below.refl w.heap.size w);have H:=h;clear h;unfold fC.f at H;by_cases c3:a1=0
 ·rw [if_pos c3] at H;have fU:(a1 == 0)=true:=beq_iff_eq.mpr c3;have wO:(a1 != 0)=false:=bne_eq_false_iff_eq.mpr c3;clear c3;obtain rfl:=Option.some.inj H;go_enter Tryz.func144,Tryz.ntmps144;go_wp2;go_ret;exact ⟨zS,zB⟩
 ·rw [if_neg c3] at H;have fU:(a1 == 0)=false:=beq_eq_false_iff_ne.mpr c3;have wO:(a1 != 0)=true:=bne_iff_ne.mpr c3;replace H:=zO H;obtain ⟨ahj,A4,H⟩:=H;try dsimp only at H
  replace H:=zO H;obtain ⟨ahk,A5,H⟩:=H;try dsimp only at H
  replace H:=zO H;obtain ⟨⟨yF,yG,au2⟩,A6,H⟩:=H;try dsimp only at H
  rcases Bool.eq_false_or_eq_true ((decide (a0 < 0)) != (decide (a1 < 0))) with hsv|hsv
  ·have vC:((decide (a0 < 0)) != (decide (a1 < 0)))=true:=hsv;have arI:((decide (a0 < 0)) == (decide (a1 < 0)))=false:=(by simpa using hsv);have HC7:=aj.mk H;clear H;go_enter Tryz.func144,Tryz.ntmps144;go_upto_region 5 with (first|((with_reducible refine ay (f:=120) rfl ?_);refine aH (some 12) rfl rfl Tryz.func120 (by kernel_rfl) rfl #[.int .i64 a0] rfl zL ?_;(with_reducible refine (dW.calls a0 ahj _ A4.out).mono ?_);rintro e w' ⟨rfl,⟨nd,rfl⟩⟩;refine ⟨_,rfl,?_⟩)|((with_reducible refine ay (f:=120) rfl ?_);refine aH (some 15) rfl rfl Tryz.func120 (by kernel_rfl) rfl #[.int .i64 a1] rfl zL ?_;(with_reducible refine (dW.calls a1 ahk _ A5.out).mono ?_);rintro e w' ⟨rfl,⟨nd,rfl⟩⟩;refine ⟨_,rfl,?_⟩)|((with_reducible refine ay (f:=172) rfl ?_);refine aH (some 16) rfl rfl Tryz.func172 (by kernel_rfl) rfl #[.agg #[.int .u64 0,.int .u64 ahj],.int .u64 ahk] rfl zL ?_;(with_reducible refine (fP.calls k 0 ahj ahk yF yG au2 _ A6.out).mono ?_);rintro e w8 ⟨rfl,hb⟩;refine ⟨_,rfl,?_⟩;replace HB:=aj.mk (ak zB hb);(try clear hb))|((with_reducible refine aZ (N:=5) rfl ?_);refine aX zR (N:=5) zR (cs := #[.int .u64 0,.int .u64 0]) (t:=179) zG ?_;intro aj7 hg w9 hbox hb;obtain ⟨HB,lJ,aBR,aBS⟩:=zA4 (ak zB hb) hbox (zg hg zB) (zg hg zB);clear hb hbox hg;obtain ⟨_,_⟩:=zC2 lJ.out;obtain ⟨_,_⟩:=zF2 lJ.out))
   (try simp only [Act.put,List.setIfInBounds_toArray,List.set_cons_zero,List.set_cons_succ])
   go_cut [28] (fun v28 wc=>∃ (kq:Nat) (adb:Bool),v28 = .bool adb/\aj (fC.j0 kq ((decide (a0 < 0)) != (decide (a1 < 0))) adb yF yG=some r)/\aj (kq<=k)/\aj (wc.heap[aj7]? = some (.cells #[.int .u64 yF,.int .u64 yG] 179 (0,0)))/\aj (Below w.heap.size w wc))
   case first =>
    have H:=HC7.out;clear HC7;by_cases c11:((decide (a0 < 0)) != (decide (a1 < 0)))=true
    ·rw [if_pos c11] at H;have jy:((decide (a0 < 0)) != (decide (a1 < 0)))=true:=c11
     (try (have aac:decide ((decide (a0 < 0))=(decide (a1 < 0)))=false:=by simpa using c11))
     (try (have arJ:((decide (a0 < 0)) == (decide (a1 < 0)))=false:=by simpa using c11))
     (try (have aBT:¬ ((decide (a0 < 0))=(decide (a1 < 0))):=by simpa using c11))
     clear c11
     (first|rw [jy]|(simp only [bP,bU];rw [jy])|skip)
     have H':=aj.mk H;clear H;go_wp2;go_meet
     case rel=>exact ⟨_,(decide (au2 > 0)),zT,H',⟨by first|omega|exact Nat.le_refl _⟩,⟨by refine zD ?_;refine bg (cs := #[.int .u64 yF,.int .u64 0]) ?_ 1 _ rfl;refine zD ?_;refine bg (cs := #[.int .u64 0,.int .u64 0]) ?_ 0 _ rfl;refine zD ?_;exact lJ.out⟩,⟨zB⟩⟩
    ·rw [if_neg c11] at H;have jy:((decide (a0 < 0)) != (decide (a1 < 0)))=false:=(by simpa using c11);exact absurd (vC.symm.trans jy) (by decide)
   case rest =>
    clear HC7;obtain ⟨kq,adb,rfl,HA,HJ6,lJ,HB⟩:=hcut;cases kq with
    | zero=>exact absurd HA.out (by simp [fC.j0])
    | succ kj6 =>
     have H:=HA.out;clear HA;simp only [fC.j0] at H;by_cases c12:adb=true
     ·subst c12;rw [if_pos rfl] at H;(try dsimp only at H);replace H:=zO H;obtain ⟨⟨adU,afJ⟩,A13,H⟩:=H;try dsimp only at H
      replace H:=zO H;obtain ⟨aoB,A14,H⟩:=H;try dsimp only at H
      obtain rfl:=Option.some.inj H;obtain ⟨_,_⟩:=zC2 lJ.out;obtain ⟨_,_⟩:=zF2 lJ.out;go_wp2_with (first|((with_reducible refine ay (f:=124) rfl ?_);refine aH (some 31) rfl rfl Tryz.func124 (by kernel_rfl) rfl #[.agg #[.int .u64 yF,.int .u64 yG],.agg #[.int .u64 0,.int .u64 1]] rfl zL ?_;(with_reducible refine (iL.calls yF yG 0 1 adU afJ _ A13.out).mono ?_);rintro e w16 ⟨rfl,hb⟩;refine ⟨_,rfl,?_⟩;obtain ⟨lJ,HB⟩:=zA2 (aA (zK lJ) hb) (ak zB hb);(try clear hb);obtain ⟨_,_⟩:=zC2 lJ.out;obtain ⟨_,_⟩:=zF2 lJ.out)|((with_reducible refine ay (f:=125) rfl ?_);refine aH (some 34) rfl rfl Tryz.func125 (by kernel_rfl) rfl #[.agg #[.int .u64 adU,.int .u64 afJ],.bool true] rfl zL ?_;(with_reducible refine (cZ.calls kj6 adU afJ true aoB _ (by have h:=A14.out;rw [vC] at h;exact h)).mono ?_);rintro e w18 ⟨rfl,hb⟩;refine ⟨_,rfl,?_⟩;obtain ⟨lJ,HB⟩:=zA2 (aA (g:=aj7) (o := .cells #[.int .u64 adU,.int .u64 afJ] 179 (0,0)) (by refine zD ?_;refine bg (cs := #[.int .u64 adU,.int .u64 yG]) ?_ 1 _ rfl;refine zD ?_;refine bg (cs := #[.int .u64 yF,.int .u64 yG]) ?_ 0 _ rfl;refine zD ?_;exact lJ.out) hb) (ak zB hb);(try clear hb)));go_ret;exact ⟨zS,zB⟩
     ·replace c12:=Bool.eq_false_iff.mpr c12;subst c12;rw [if_neg (show ¬ (false=true) by decide)] at H;(try dsimp only at H);replace H:=zO H;obtain ⟨aoC,A19,H⟩:=H;try dsimp only at H
      obtain rfl:=Option.some.inj H;obtain ⟨_,_⟩:=zC2 lJ.out;obtain ⟨_,_⟩:=zF2 lJ.out;go_wp2_with (first|((with_reducible refine ay (f:=125) rfl ?_);refine aH (some 34) rfl rfl Tryz.func125 (by kernel_rfl) rfl #[.agg #[.int .u64 yF,.int .u64 yG],.bool true] rfl zL ?_;(with_reducible refine (cZ.calls kj6 yF yG true aoC _ (by have h:=A19.out;rw [vC] at h;exact h)).mono ?_);rintro e w21 ⟨rfl,hb⟩;refine ⟨_,rfl,?_⟩;obtain ⟨lJ,HB⟩:=zA2 (aA (zK lJ) hb) (ak zB hb);(try clear hb)));go_ret;exact ⟨zS,zB⟩
  ·have vC:((decide (a0 < 0)) != (decide (a1 < 0)))=false:=hsv;have arI:((decide (a0 < 0)) == (decide (a1 < 0)))=true:=(by simpa using hsv);have HC7:=aj.mk H;clear H;go_enter Tryz.func144,Tryz.ntmps144;go_upto_region 5 with (first|((with_reducible refine ay (f:=120) rfl ?_);refine aH (some 12) rfl rfl Tryz.func120 (by kernel_rfl) rfl #[.int .i64 a0] rfl zL ?_;(with_reducible refine (dW.calls a0 ahj _ A4.out).mono ?_);rintro e w' ⟨rfl,⟨nd,rfl⟩⟩;refine ⟨_,rfl,?_⟩)|((with_reducible refine ay (f:=120) rfl ?_);refine aH (some 15) rfl rfl Tryz.func120 (by kernel_rfl) rfl #[.int .i64 a1] rfl zL ?_;(with_reducible refine (dW.calls a1 ahk _ A5.out).mono ?_);rintro e w' ⟨rfl,⟨nd,rfl⟩⟩;refine ⟨_,rfl,?_⟩)|((with_reducible refine ay (f:=172) rfl ?_);refine aH (some 16) rfl rfl Tryz.func172 (by kernel_rfl) rfl #[.agg #[.int .u64 0,.int .u64 ahj],.int .u64 ahk] rfl zL ?_;(with_reducible refine (fP.calls k 0 ahj ahk yF yG au2 _ A6.out).mono ?_);rintro e w8 ⟨rfl,hb⟩;refine ⟨_,rfl,?_⟩;replace HB:=aj.mk (ak zB hb);(try clear hb))|((with_reducible refine aZ (N:=5) rfl ?_);refine aX zR (N:=5) zR (cs := #[.int .u64 0,.int .u64 0]) (t:=179) zG ?_;intro aj7 hg w9 hbox hb;obtain ⟨HB,lJ,aBR,aBS⟩:=zA4 (ak zB hb) hbox (zg hg zB) (zg hg zB);clear hb hbox hg;obtain ⟨_,_⟩:=zC2 lJ.out;obtain ⟨_,_⟩:=zF2 lJ.out))
   (try simp only [Act.put,List.setIfInBounds_toArray,List.set_cons_zero,List.set_cons_succ])
   go_cut [28] (fun v28 wc=>∃ (kq:Nat) (adb:Bool),v28 = .bool adb/\aj (fC.j0 kq ((decide (a0 < 0)) != (decide (a1 < 0))) adb yF yG=some r)/\aj (kq<=k)/\aj (wc.heap[aj7]? = some (.cells #[.int .u64 yF,.int .u64 yG] 179 (0,0)))/\aj (Below w.heap.size w wc))
   case first =>
    have H:=HC7.out;clear HC7;by_cases c11:((decide (a0 < 0)) != (decide (a1 < 0)))=true
    ·rw [if_pos c11] at H;have jy:((decide (a0 < 0)) != (decide (a1 < 0)))=true:=c11;exact absurd (vC.symm.trans jy) (by decide)
    ·rw [if_neg c11] at H;have jy:((decide (a0 < 0)) != (decide (a1 < 0)))=false:=by simpa using c11
     (try (have aac:decide ((decide (a0 < 0))=(decide (a1 < 0)))=true:=by simpa using c11))
     (try (have arJ:((decide (a0 < 0)) == (decide (a1 < 0)))=true:=by simpa using c11))
     clear c11
     (first|rw [jy]|(simp only [bP,bU];rw [jy])|skip)
     have H':=aj.mk H;clear H;go_wp2;go_meet
     case rel=>exact ⟨_,(false),zT,H',⟨by first|omega|exact Nat.le_refl _⟩,⟨by refine zD ?_;refine bg (cs := #[.int .u64 yF,.int .u64 0]) ?_ 1 _ rfl;refine zD ?_;refine bg (cs := #[.int .u64 0,.int .u64 0]) ?_ 0 _ rfl;refine zD ?_;exact lJ.out⟩,⟨zB⟩⟩
   case rest =>
    clear HC7;obtain ⟨kq,adb,rfl,HA,HJ6,lJ,HB⟩:=hcut;cases kq with
    | zero=>exact absurd HA.out (by simp [fC.j0])
    | succ kj6 =>
     have H:=HA.out;clear HA;simp only [fC.j0] at H;by_cases c12:adb=true
     ·subst c12;rw [if_pos rfl] at H;(try dsimp only at H);replace H:=zO H;obtain ⟨⟨adU,afJ⟩,A13,H⟩:=H;try dsimp only at H
      replace H:=zO H;obtain ⟨aoB,A14,H⟩:=H;try dsimp only at H
      obtain rfl:=Option.some.inj H;obtain ⟨_,_⟩:=zC2 lJ.out;obtain ⟨_,_⟩:=zF2 lJ.out;go_wp2_with (first|((with_reducible refine ay (f:=124) rfl ?_);refine aH (some 31) rfl rfl Tryz.func124 (by kernel_rfl) rfl #[.agg #[.int .u64 yF,.int .u64 yG],.agg #[.int .u64 0,.int .u64 1]] rfl zL ?_;(with_reducible refine (iL.calls yF yG 0 1 adU afJ _ A13.out).mono ?_);rintro e w16 ⟨rfl,hb⟩;refine ⟨_,rfl,?_⟩;obtain ⟨lJ,HB⟩:=zA2 (aA (zK lJ) hb) (ak zB hb);(try clear hb);obtain ⟨_,_⟩:=zC2 lJ.out;obtain ⟨_,_⟩:=zF2 lJ.out)|((with_reducible refine ay (f:=125) rfl ?_);refine aH (some 34) rfl rfl Tryz.func125 (by kernel_rfl) rfl #[.agg #[.int .u64 adU,.int .u64 afJ],.bool false] rfl zL ?_;(with_reducible refine (cZ.calls kj6 adU afJ false aoB _ (by have h:=A14.out;rw [vC] at h;exact h)).mono ?_);rintro e w18 ⟨rfl,hb⟩;refine ⟨_,rfl,?_⟩;obtain ⟨lJ,HB⟩:=zA2 (aA (g:=aj7) (o := .cells #[.int .u64 adU,.int .u64 afJ] 179 (0,0)) (by refine zD ?_;refine bg (cs := #[.int .u64 adU,.int .u64 yG]) ?_ 1 _ rfl;refine zD ?_;refine bg (cs := #[.int .u64 yF,.int .u64 yG]) ?_ 0 _ rfl;refine zD ?_;exact lJ.out) hb) (ak zB hb);(try clear hb)));go_ret;exact ⟨zS,zB⟩
     ·replace c12:=Bool.eq_false_iff.mpr c12;subst c12;rw [if_neg (show ¬ (false=true) by decide)] at H;(try dsimp only at H);replace H:=zO H;obtain ⟨aoC,A19,H⟩:=H;try dsimp only at H
      obtain rfl:=Option.some.inj H;obtain ⟨_,_⟩:=zC2 lJ.out;obtain ⟨_,_⟩:=zF2 lJ.out;go_wp2_with (first|((with_reducible refine ay (f:=125) rfl ?_);refine aH (some 34) rfl rfl Tryz.func125 (by kernel_rfl) rfl #[.agg #[.int .u64 yF,.int .u64 yG],.bool false] rfl zL ?_;(with_reducible refine (cZ.calls kj6 yF yG false aoC _ (by have h:=A19.out;rw [vC] at h;exact h)).mono ?_);rintro e w21 ⟨rfl,hb⟩;refine ⟨_,rfl,?_⟩;obtain ⟨lJ,HB⟩:=zA2 (aA (zK lJ) hb) (ak zB hb);(try clear hb)));go_ret;exact ⟨zS,zB⟩
mutual
def aG.j0:Nat->List Int->Bool->Option (List Int × Int)
 | 0,_,_=>none
 | k+1,x0,x22=>if x22=true then (some (([]:List Int),7)) else (aG.l0 k x0 x0 (x0.length:Int) 0)
def aG.l0:Nat->List Int->List Int->Int->Int->Option (List Int × Int)
 | 0,_,_,_,_=>none
 | k+1,x0,x23,x24,x25=>if x25 < x24 then (if 0<=x25 then (if x25 < (x23.length:Int) then ((jo.f (rd x23 x25)).bind fun afK=>(if afK > 1099511627776 then (some (([]:List Int),7)) else (aG.l0 k x0 x23 x24 (wrap64 (x25+1))))) else (none)) else (none)) else ((fO.f k x0).bind fun sQ=>(if sQ < 268435456 then (some (([]:List Int),8)) else (aG.l1 k sQ ([]:List Int) ([]:List Int) 16384 x0 (x0.length:Int) 0)))
def aG.l1:Nat->Int->List Int->List Int->Int->List Int->Int->Int->Option (List Int × Int)
 | 0,_,_,_,_,_,_,_=>none
 | k+1,x6,x7,x8,x9,x37,x38,x39=>if x39 < x38 then (if 0<=x39 then (if x39 < (x37.length:Int) then ((fC.f k (wrap64 ((rd x37 x39)*16384)) x6).bind fun sG=>(if x7.length < 17592186044416 then (if x8.length < 17592186044416 then (aG.l1 k x6 (x7 ++ [sG]) (x8 ++ [wrap64 ((wrap64 ((rd x37 x39)*16384)) - (wrap64 (sG*x6)))]) (wrap64 (x9 - sG)) x37 x38 (wrap64 (x39+1))) else (none)) else (none))) else (none)) else (none)) else (aG.l2 k x7 x8 x9)
def aG.l2:Nat->List Int->List Int->Int->Option (List Int × Int)
 | 0,_,_,_=>none
 | k+1,x7,x8,x9=>if x9 > 0 then (aG.l3 k x7 x8 x9 0 (x8.length:Int) 0) else (some (x7,0))
def aG.l3:Nat->List Int->List Int->Int->Int->Int->Int->Option (List Int × Int)
 | 0,_,_,_,_,_,_=>none
 | k+1,x7,x8,x9,x13,x67,x68=>if x68 < x67 then (if 0<=x68 then (if x68 < (x8.length:Int) then (if 0<=x13 then (if x13 < (x8.length:Int) then (if (rd x8 x68) > (rd x8 x13) then (aG.l3 k x7 x8 x9 x68 x67 (wrap64 (x68+1))) else (aG.l3 k x7 x8 x9 x13 x67 (wrap64 (x68+1)))) else (none)) else (none)) else (none)) else (none)) else (if 0<=x13 then (if x13 < (x7.length:Int) then (if x13 < (x8.length:Int) then (aG.l2 k (x7.set (x13:Int).toNat (wrap64 ((rd x7 x13)+1))) (x8.set (x13:Int).toNat (-1)) (wrap64 (x9 - 1))) else (none)) else (none)) else (none))
end
def aG.f (k:Nat) (l0:List Int):Option (List Int × Int):=if (l0.length:Int) < 1 then (aG.j0 k l0 true) else (aG.j0 k l0 (decide ((l0.length:Int) > 1048576)))
theorem aG.calls (k:Nat) (A0:Option Addr) (c0:Nat) (l0 r1:List Int) (r2:Int) (w:World) (hr0:Kd.C (Kd.int .i64) w A0 l0.length l0) (hc0:l0.length<=c0) (h:aG.f k l0=some (r1,r2)) :
  Calls Tryz.prog 115 #[.slice A0 l0.length c0] w fun e w'=>∃ v0_:Value,e = .returned (.tuple #[v0_,.int .i64 r2])/\Kd.R (Kd.int .i64) 2 w' w.heap.size (fun _=>True) v0_ r1/\Below w.heap.size w w':=by
 have HR0:=aj.mk hr0;have HC0:=aj.mk hc0;clear hr0 hc0;have HB:=aj.mk (Below.refl w.heap.size w);have H:=h;clear h;unfold aG.f at H;have HC2:=aj.mk H;clear H;go_enter Tryz.func115,Tryz.ntmps115;go_upto_region 1 with (fail);repeat (go_quiet (fail);go_upto_region 1 with (fail))
 go_cut [22] (fun v22 wc=>∃ (kq:Nat) (anm:Bool),v22 = .bool anm/\aj (aG.j0 kq l0 anm=some (r1,r2))/\aj (kq<=k)/\aj (Below w.heap.size w wc))
 case first =>
  have H:=HC2.out;clear HC2;by_cases c3:(l0.length:Int) < 1
  ·rw [if_pos c3] at H;have fU:=decide_eq_true c3;have wO:decide (l0.length < 1)=true:=decide_eq_true (by omega);clear c3
   (first|rw [fU]|(simp only [bP,bU];rw [fU])|skip)
   have H':=aj.mk H;clear H;go_wp2;repeat (go_quiet (fail);try go_wp2)
   go_meet
   case rel=>exact ⟨_,(true),zT,H',⟨by first|omega|exact Nat.le_refl _⟩,⟨zB⟩⟩
  ·rw [if_neg c3] at H;have fU:=decide_eq_false c3;have wO:decide (l0.length < 1)=false:=decide_eq_false (by omega);clear c3
   (first|rw [fU]|(simp only [bP,bU];rw [fU])|skip)
   have H':=aj.mk H;clear H;go_wp2;repeat (go_quiet (fail);try go_wp2)
   go_meet
   case rel=>exact ⟨_,(decide ((l0.length:Int) > 1048576)),zT,H',⟨by first|omega|exact Nat.le_refl _⟩,⟨zB⟩⟩
 case rest =>
  clear HC2;obtain ⟨kq,anm,rfl,HA,HJ1,HB⟩:=hcut;cases kq with
  | zero=>exact absurd HA.out (by simp [aG.j0])
  | succ kj1 =>
   have H:=HA.out;clear HA;simp only [aG.j0] at H;by_cases c4:anm=true
   ·subst c4;rw [if_pos rfl] at H;(try dsimp only at H);simp only [Option.some.injEq,Prod.mk.injEq] at H;obtain ⟨rfl,rfl⟩:=H;go_wp2;repeat (go_quiet (fail);try go_wp2)
    go_ret2;exact ⟨_,zS,by first|exact Kd.kJ _ _ _ _ _|exact Kd.qO _ _ _ _ _|exact Kd.oU _ _ _ _ _|exact Kd.qP _ _ _ _ _|exact Kd.qp _ _ _ _ _,zB⟩
   ·replace c4:=Bool.eq_false_iff.mpr c4;subst c4;rw [if_neg (show ¬ (false=true) by decide)] at H;(try dsimp only at H);have H':=aj.mk H;clear H;go_wp2;repeat (go_quiet (fail);try go_wp2)
    go_loopg [25] kj1 (fun kq v25 w'=>∃ (sS:Int),v25 = .int .i64 sS/\aj (aG.l0 kq l0 l0 (l0.length:Int) sS=some (r1,r2))/\aj (kq<=kj1)/\aj (Below w.heap.size w w'))
    case atStart=>exact ⟨(0),zT,H',⟨Nat.le_refl _⟩,⟨zB⟩⟩
    case round =>
     clear H';obtain ⟨sS,rfl,HA,HK2,HB⟩:=hrel;cases gk with
     | zero=>exact absurd HA.out (by simp [aG.l0])
     | succ k2 =>
      have H:=HA.out;clear HA;simp only [aG.l0] at H;by_cases c5:sS < (l0.length:Int)
      ·rw [if_pos c5] at H;have gJ:=decide_eq_true c5;clear c5;by_cases c6:0<=sS
       ·rw [if_pos c6] at H;have gI:=decide_eq_true c6;clear c6;by_cases c7:sS < (l0.length:Int)
        ·rw [if_pos c7] at H;have jw:=decide_eq_true c7;clear c7;replace H:=zO H;obtain ⟨afK,A8,H⟩:=H;try dsimp only at H
         by_cases c9:afK > 1099511627776
         ·rw [if_pos c9] at H;have o8:=decide_eq_true c9;clear c9;simp only [Option.some.injEq,Prod.mk.injEq] at H;obtain ⟨rfl,rfl⟩:=H;have aiU:0<=(sS:Int):=of_decide_eq_true (by first|(with_reducible assumption)|assumption);have aiV:sS < (l0.length:Int):=of_decide_eq_true (by first|(with_reducible assumption)|assumption);obtain ⟨aBU,au3,acg⟩:=Kd.iZ HR0.out sS aiU aiV;cases au3;replace acg:=(HB.out.cell (World.block_lt_of_cell? w _ acg)).trans acg;replace aiU:=eq_true aiU;replace aiV:=eq_true aiV;go_wp2_with (first|(go_at_call 142;(with_reducible refine (jo.calls (rd l0 sS) afK _ A8.out).mono ?_);rintro e w' ⟨rfl,⟨nd,rfl⟩⟩;(try exact ⟨rfl,_,zN⟩)));repeat (go_quiet (first|(go_at_call 142;(with_reducible refine (jo.calls (rd l0 sS) afK _ A8.out).mono ?_);rintro e w' ⟨rfl,⟨nd,rfl⟩⟩;(try exact ⟨rfl,_,zN⟩)));try go_wp2_with (first|(go_at_call 142;(with_reducible refine (jo.calls (rd l0 sS) afK _ A8.out).mono ?_);rintro e w' ⟨rfl,⟨nd,rfl⟩⟩;(try exact ⟨rfl,_,zN⟩))))
          go_ret2;exact ⟨_,zS,by first|exact Kd.kJ _ _ _ _ _|exact Kd.qO _ _ _ _ _|exact Kd.oU _ _ _ _ _|exact Kd.qP _ _ _ _ _|exact Kd.qp _ _ _ _ _,zB⟩
         ·rw [if_neg c9] at H;have o8:=decide_eq_false c9;clear c9;have H':=aj.mk H;clear H;have aiU:0<=(sS:Int):=of_decide_eq_true (by first|(with_reducible assumption)|assumption);have aiV:sS < (l0.length:Int):=of_decide_eq_true (by first|(with_reducible assumption)|assumption);obtain ⟨aBU,au3,acg⟩:=Kd.iZ HR0.out sS aiU aiV;cases au3;replace acg:=(HB.out.cell (World.block_lt_of_cell? w _ acg)).trans acg;replace aiU:=eq_true aiU;replace aiV:=eq_true aiV;go_wp2_with (first|(go_at_call 142;(with_reducible refine (jo.calls (rd l0 sS) afK _ A8.out).mono ?_);rintro e w' ⟨rfl,⟨nd,rfl⟩⟩;(try exact ⟨rfl,_,zN⟩)));repeat (go_quiet (first|(go_at_call 142;(with_reducible refine (jo.calls (rd l0 sS) afK _ A8.out).mono ?_);rintro e w' ⟨rfl,⟨nd,rfl⟩⟩;(try exact ⟨rfl,_,zN⟩)));try go_wp2_with (first|(go_at_call 142;(with_reducible refine (jo.calls (rd l0 sS) afK _ A8.out).mono ?_);rintro e w' ⟨rfl,⟨nd,rfl⟩⟩;(try exact ⟨rfl,_,zN⟩))))
          go_roundg k2
          case measure=>have:=HJ1.out;have:=HK2.out;omega
          case rel=>exact ⟨(wrap64 (sS+1)),zT,H',⟨by have:=HJ1.out;have:=HK2.out;omega⟩,⟨zB⟩⟩
        ·rw [if_neg c7] at H;exact absurd H (by simp)
       ·rw [if_neg c6] at H;exact absurd H (by simp)
      ·rw [if_neg c5] at H;have gJ:=decide_eq_false c5;clear c5;replace H:=zO H;obtain ⟨sQ,A10,H⟩:=H;try dsimp only at H
       by_cases c11:sQ < 268435456
       ·rw [if_pos c11] at H;have jy:=decide_eq_true c11;clear c11;simp only [Option.some.injEq,Prod.mk.injEq] at H;obtain ⟨rfl,rfl⟩:=H;go_wp2_with (first|(go_at_call 143;(with_reducible refine (fO.calls k2 _ _ l0 sQ _ ?iD ?iE A10.out).mono ?_);(case iD=>repeat (first|exact (Kd.bD HR0.out HB.out)|(with_reducible refine Kd.iU ?_ _)|(with_reducible refine Kd.jh ?_ _)|(with_reducible refine Kd.jI ?_)));(case iE=>exact HC0.out);rintro e w' ⟨rfl,⟨nd,rfl⟩⟩;(try exact ⟨rfl,_,zN⟩)));repeat (go_quiet (first|(go_at_call 143;(with_reducible refine (fO.calls k2 _ _ l0 sQ _ ?iD ?iE A10.out).mono ?_);(case iD=>repeat (first|exact (Kd.bD HR0.out HB.out)|(with_reducible refine Kd.iU ?_ _)|(with_reducible refine Kd.jh ?_ _)|(with_reducible refine Kd.jI ?_)));(case iE=>exact HC0.out);rintro e w' ⟨rfl,⟨nd,rfl⟩⟩;(try exact ⟨rfl,_,zN⟩)));try go_wp2_with (first|(go_at_call 143;(with_reducible refine (fO.calls k2 _ _ l0 sQ _ ?iD ?iE A10.out).mono ?_);(case iD=>repeat (first|exact (Kd.bD HR0.out HB.out)|(with_reducible refine Kd.iU ?_ _)|(with_reducible refine Kd.jh ?_ _)|(with_reducible refine Kd.jI ?_)));(case iE=>exact HC0.out);rintro e w' ⟨rfl,⟨nd,rfl⟩⟩;(try exact ⟨rfl,_,zN⟩))))
        go_ret2;exact ⟨_,zS,by first|exact Kd.kJ _ _ _ _ _|exact Kd.qO _ _ _ _ _|exact Kd.oU _ _ _ _ _|exact Kd.qP _ _ _ _ _|exact Kd.qp _ _ _ _ _,zB⟩
       ·rw [if_neg c11] at H;have jy:=decide_eq_false c11;clear c11;have H':=aj.mk H;clear H;go_wp2_with (first|(go_at_call 143;(with_reducible refine (fO.calls k2 _ _ l0 sQ _ ?iD ?iE A10.out).mono ?_);(case iD=>repeat (first|exact (Kd.bD HR0.out HB.out)|(with_reducible refine Kd.iU ?_ _)|(with_reducible refine Kd.jh ?_ _)|(with_reducible refine Kd.jI ?_)));(case iE=>exact HC0.out);rintro e w' ⟨rfl,⟨nd,rfl⟩⟩;(try exact ⟨rfl,_,zN⟩)));repeat (go_quiet (first|(go_at_call 143;(with_reducible refine (fO.calls k2 _ _ l0 sQ _ ?iD ?iE A10.out).mono ?_);(case iD=>repeat (first|exact (Kd.bD HR0.out HB.out)|(with_reducible refine Kd.iU ?_ _)|(with_reducible refine Kd.jh ?_ _)|(with_reducible refine Kd.jI ?_)));(case iE=>exact HC0.out);rintro e w' ⟨rfl,⟨nd,rfl⟩⟩;(try exact ⟨rfl,_,zN⟩)));try go_wp2_with (first|(go_at_call 143;(with_reducible refine (fO.calls k2 _ _ l0 sQ _ ?iD ?iE A10.out).mono ?_);(case iD=>repeat (first|exact (Kd.bD HR0.out HB.out)|(with_reducible refine Kd.iU ?_ _)|(with_reducible refine Kd.jh ?_ _)|(with_reducible refine Kd.jI ?_)));(case iE=>exact HC0.out);rintro e w' ⟨rfl,⟨nd,rfl⟩⟩;(try exact ⟨rfl,_,zN⟩))))
        try simp only [Act.put,List.setIfInBounds_toArray,List.set_cons_succ,List.set_cons_zero]
        go_loopg [7,8,9,39] k2 (fun kq v7 v8 v9 v39 w'=>∃ (vV:List Int) (adV:List Int) (aiW:Int) (qE:Int),v9 = .int .i64 aiW/\v39 = .int .i64 qE/\aj (aG.l1 kq sQ vV adV aiW l0 (l0.length:Int) qE=some (r1,r2))/\aj (kq<=k2)/\aj (Kd.R (Kd.int .i64) 2 w' w.heap.size (fun k_=>some k_≠(v8:Value).ownBlock) v7 vV)/\aj (Kd.R (Kd.int .i64) 2 w' w.heap.size (fun k_=>some k_≠(v7:Value).ownBlock) v8 adV)/\aj (Below w.heap.size w w'))
        case atStart=>exact ⟨(([]:List Int)),(([]:List Int)),(16384),(0),zT,zT,H',⟨Nat.le_refl _⟩,⟨by first|exact Kd.kJ _ _ _ _ _|exact Kd.qO _ _ _ _ _|exact Kd.oU _ _ _ _ _|exact Kd.qP _ _ _ _ _|exact Kd.qp _ _ _ _ _⟩,⟨by first|exact Kd.kJ _ _ _ _ _|exact Kd.qO _ _ _ _ _|exact Kd.oU _ _ _ _ _|exact Kd.qP _ _ _ _ _|exact Kd.qp _ _ _ _ _⟩,⟨zB⟩⟩
        case round =>
         clear H';try clear hx3
         obtain ⟨vV,adV,aiW,qE,rfl,rfl,HA,HK3,kF,dZ,HB⟩:=hrel;cases gk with
         | zero=>exact absurd HA.out (by simp [aG.l1])
         | succ k3 =>
          have H:=HA.out;clear HA;simp only [aG.l1] at H;by_cases c12:qE < (l0.length:Int)
          ·rw [if_pos c12] at H;have yU:=decide_eq_true c12;clear c12;by_cases c13:0<=qE
           ·rw [if_pos c13] at H;have aaf:=decide_eq_true c13;clear c13;by_cases c14:qE < (l0.length:Int)
            ·rw [if_pos c14] at H;have acu:=decide_eq_true c14;clear c14;replace H:=zO H;obtain ⟨sG,A15,H⟩:=H;try dsimp only at H
             by_cases c16:vV.length < 17592186044416
             ·rw [if_pos c16] at H;have arK:=aj.mk c16;clear c16;obtain ⟨au4,aj8⟩:∃ y_:List Int,y_=(vV ++ [sG]):=⟨_,rfl⟩;replace H:(if adV.length < 17592186044416 then (aG.l1 k3 sQ au4 (adV ++ [wrap64 ((wrap64 ((rd l0 qE)*16384)) - (wrap64 (sG*sQ)))]) (wrap64 (aiW - sG)) l0 (l0.length:Int) (wrap64 (qE+1))) else (none))=some (r1,r2):=(by first|(rw [aj8];with_reducible exact H)|(have H2_:=(Option.bind_some _ _).symm.trans H;rw [aj8];with_reducible exact H2_)|(have H2_:=(Option.bind_some _ _).symm.trans H;with_reducible exact H2_)|with_reducible exact H|(rw [aj8];exact H)|exact H);have arL:=aj.mk aj8;clear aj8;by_cases c17:adV.length < 17592186044416
              ·rw [if_pos c17] at H;have arM:=aj.mk c17;clear c17;obtain ⟨azp,aj9⟩:∃ y_:List Int,y_=(adV ++ [wrap64 ((wrap64 ((rd l0 qE)*16384)) - (wrap64 (sG*sQ)))]):=⟨_,rfl⟩;replace H:(aG.l1 k3 sQ au4 azp (wrap64 (aiW - sG)) l0 (l0.length:Int) (wrap64 (qE+1)))=some (r1,r2):=(by first|(rw [aj9];with_reducible exact H)|(have H2_:=(Option.bind_some _ _).symm.trans H;rw [aj9];with_reducible exact H2_)|(have H2_:=(Option.bind_some _ _).symm.trans H;with_reducible exact H2_)|with_reducible exact H|(rw [aj9];exact H)|exact H);have arN:=aj.mk aj9;clear aj9;have H':=aj.mk H;clear H;have au5:0<=(qE:Int):=of_decide_eq_true (by first|(with_reducible assumption)|assumption);have au6:qE < (l0.length:Int):=of_decide_eq_true (by first|(with_reducible assumption)|assumption);obtain ⟨aHR,aDl,alk⟩:=Kd.iZ HR0.out qE au5 au6;cases aDl;replace alk:=(HB.out.cell (World.block_lt_of_cell? w _ alk)).trans alk;replace au5:=eq_true au5;replace au6:=eq_true au6;go_wp2_with (first|(go_at_call 144;(with_reducible refine (fC.calls k3 (wrap64 ((rd l0 qE)*16384)) sQ sG _ A15.out).mono ?_);rintro e w18 ⟨rfl,hb⟩;obtain ⟨kF,dZ,HB⟩:=zA3 (Kd.jF (by (with_reducible repeat (first|apply Kd.aN|apply Kd.aT|apply Kd.aV));exact kF.out) hb) (Kd.jF (by (with_reducible repeat (first|apply Kd.aN|apply Kd.aT|apply Kd.aV));exact dZ.out) hb) (ak zB hb);(try clear hb))|((with_reducible refine kR (b := .append) (xs := #[.tmp 47,.tmp 49]) rfl ?_);(try (refine lV (by rfl) ?_;dsimp only));at_builtin;refine Kd.lU (Kd.int .i64) (w0:=w) w.heap.size rfl (.tmp 47) (.tmp 49) 44 2 (.int .i64 0) 8 rfl Tryz.underlying44 yM rfl (by decide) (by omega) u7 vV sG [.int .i64 sG] (fun k_=>some k_≠(u8:Value).ownBlock) (fun _=>False) rfl rfl ?aP (fun _ hk=>hk.elim) ?aF ?aO ?aB ?aS ?aL ?_;(case aP=>exact rfl);(case aB=>exact zB);(case aF=>exact (fun k_ hk=>Kd.fresh' (Kd.nC (by (with_reducible repeat (first|apply Kd.aN|apply Kd.aT|apply Kd.aV));exact dZ.out)) k_ hk));(case aO=>exact (by (with_reducible repeat (first|apply Kd.aN|apply Kd.aT|apply Kd.aV));exact kF.out));(case aS=>exact (bW zB));(case aL=>have:=arK.out;omega);intro aoD w19 ho hb hg hat;rw [<- arL.out] at ho;obtain ⟨dZ,HB,aaL⟩:=zA3 (Kd.uG (ok:=(fun _=>True)) (by (with_reducible repeat (first|apply Kd.aN|apply Kd.aT|apply Kd.aV));exact Kd.dY dZ.out (fun _ hk=>⟨trivial,hk⟩)) hg hat) hb ho;clear ho hb hg hat)|((with_reducible refine kR (b := .append) (xs := #[.tmp 51,.tmp 58]) rfl ?_);(try (refine lV (by rfl) ?_;dsimp only));at_builtin;refine Kd.lU (Kd.int .i64) (w0:=w) w.heap.size rfl (.tmp 51) (.tmp 58) 44 2 (.int .i64 0) 8 rfl Tryz.underlying44 yM rfl (by decide) (by omega) u8 adV (wrap64 ((wrap64 ((rd l0 qE)*16384)) - (wrap64 (sG*sQ)))) [.int .i64 (wrap64 ((wrap64 ((rd l0 qE)*16384)) - (wrap64 (sG*sQ))))] (fun k_=>some k_≠(aoD:Value).ownBlock) (fun _=>False) rfl rfl ?aP (fun _ hk=>hk.elim) ?aF ?aO ?aB ?aS ?aL ?_;(case aP=>exact rfl);(case aB=>exact zB);(case aF=>exact (fun k_ hk=>Kd.fresh' (Kd.nC (by (with_reducible repeat (first|apply Kd.aN|apply Kd.aT|apply Kd.aV));exact aaL.out)) k_ hk));(case aO=>exact (by (with_reducible repeat (first|apply Kd.aN|apply Kd.aT|apply Kd.aV));exact Kd.dY dZ.out (fun _ hk=>hk.2)));(case aS=>exact (bW zB));(case aL=>have:=arM.out;omega);intro azq w20 ho hb hg hat;rw [<- arN.out] at ho;obtain ⟨aaL,HB,arO⟩:=zA3 (Kd.uG (ok:=(fun _=>True)) (by (with_reducible repeat (first|apply Kd.aN|apply Kd.aT|apply Kd.aV));exact Kd.dY aaL.out (fun _ hk=>⟨trivial,hk⟩)) hg hat) hb ho;clear ho hb hg hat));repeat (go_quiet (first|(go_at_call 144;(with_reducible refine (fC.calls k3 (wrap64 ((rd l0 qE)*16384)) sQ sG _ A15.out).mono ?_);rintro e w18 ⟨rfl,hb⟩;obtain ⟨kF,dZ,HB⟩:=zA3 (Kd.jF (by (with_reducible repeat (first|apply Kd.aN|apply Kd.aT|apply Kd.aV));exact kF.out) hb) (Kd.jF (by (with_reducible repeat (first|apply Kd.aN|apply Kd.aT|apply Kd.aV));exact dZ.out) hb) (ak zB hb);(try clear hb))|((with_reducible refine kR (b := .append) (xs := #[.tmp 47,.tmp 49]) rfl ?_);(try (refine lV (by rfl) ?_;dsimp only));at_builtin;refine Kd.lU (Kd.int .i64) (w0:=w) w.heap.size rfl (.tmp 47) (.tmp 49) 44 2 (.int .i64 0) 8 rfl Tryz.underlying44 yM rfl (by decide) (by omega) u7 vV sG [.int .i64 sG] (fun k_=>some k_≠(u8:Value).ownBlock) (fun _=>False) rfl rfl ?aP (fun _ hk=>hk.elim) ?aF ?aO ?aB ?aS ?aL ?_;(case aP=>exact rfl);(case aB=>exact zB);(case aF=>exact (fun k_ hk=>Kd.fresh' (Kd.nC (by (with_reducible repeat (first|apply Kd.aN|apply Kd.aT|apply Kd.aV));exact dZ.out)) k_ hk));(case aO=>exact (by (with_reducible repeat (first|apply Kd.aN|apply Kd.aT|apply Kd.aV));exact kF.out));(case aS=>exact (bW zB));(case aL=>have:=arK.out;omega);intro aoD w19 ho hb hg hat;rw [<- arL.out] at ho;obtain ⟨dZ,HB,aaL⟩:=zA3 (Kd.uG (ok:=(fun _=>True)) (by (with_reducible repeat (first|apply Kd.aN|apply Kd.aT|apply Kd.aV));exact Kd.dY dZ.out (fun _ hk=>⟨trivial,hk⟩)) hg hat) hb ho;clear ho hb hg hat)|((with_reducible refine kR (b := .append) (xs := #[.tmp 51,.tmp 58]) rfl ?_);(try (refine lV (by rfl) ?_;dsimp only));at_builtin;refine Kd.lU (Kd.int .i64) (w0:=w) w.heap.size rfl (.tmp 51) (.tmp 58) 44 2 (.int .i64 0) 8 rfl Tryz.underlying44 yM rfl (by decide) (by omega) u8 adV (wrap64 ((wrap64 ((rd l0 qE)*16384)) - (wrap64 (sG*sQ)))) [.int .i64 (wrap64 ((wrap64 ((rd l0 qE)*16384)) - (wrap64 (sG*sQ))))] (fun k_=>some k_≠(aoD:Value).ownBlock) (fun _=>False) rfl rfl ?aP (fun _ hk=>hk.elim) ?aF ?aO ?aB ?aS ?aL ?_;(case aP=>exact rfl);(case aB=>exact zB);(case aF=>exact (fun k_ hk=>Kd.fresh' (Kd.nC (by (with_reducible repeat (first|apply Kd.aN|apply Kd.aT|apply Kd.aV));exact aaL.out)) k_ hk));(case aO=>exact (by (with_reducible repeat (first|apply Kd.aN|apply Kd.aT|apply Kd.aV));exact Kd.dY dZ.out (fun _ hk=>hk.2)));(case aS=>exact (bW zB));(case aL=>have:=arM.out;omega);intro azq w20 ho hb hg hat;rw [<- arN.out] at ho;obtain ⟨aaL,HB,arO⟩:=zA3 (Kd.uG (ok:=(fun _=>True)) (by (with_reducible repeat (first|apply Kd.aN|apply Kd.aT|apply Kd.aV));exact Kd.dY aaL.out (fun _ hk=>⟨trivial,hk⟩)) hg hat) hb ho;clear ho hb hg hat));try go_wp2_with (first|(go_at_call 144;(with_reducible refine (fC.calls k3 (wrap64 ((rd l0 qE)*16384)) sQ sG _ A15.out).mono ?_);rintro e w18 ⟨rfl,hb⟩;obtain ⟨kF,dZ,HB⟩:=zA3 (Kd.jF (by (with_reducible repeat (first|apply Kd.aN|apply Kd.aT|apply Kd.aV));exact kF.out) hb) (Kd.jF (by (with_reducible repeat (first|apply Kd.aN|apply Kd.aT|apply Kd.aV));exact dZ.out) hb) (ak zB hb);(try clear hb))|((with_reducible refine kR (b := .append) (xs := #[.tmp 47,.tmp 49]) rfl ?_);(try (refine lV (by rfl) ?_;dsimp only));at_builtin;refine Kd.lU (Kd.int .i64) (w0:=w) w.heap.size rfl (.tmp 47) (.tmp 49) 44 2 (.int .i64 0) 8 rfl Tryz.underlying44 yM rfl (by decide) (by omega) u7 vV sG [.int .i64 sG] (fun k_=>some k_≠(u8:Value).ownBlock) (fun _=>False) rfl rfl ?aP (fun _ hk=>hk.elim) ?aF ?aO ?aB ?aS ?aL ?_;(case aP=>exact rfl);(case aB=>exact zB);(case aF=>exact (fun k_ hk=>Kd.fresh' (Kd.nC (by (with_reducible repeat (first|apply Kd.aN|apply Kd.aT|apply Kd.aV));exact dZ.out)) k_ hk));(case aO=>exact (by (with_reducible repeat (first|apply Kd.aN|apply Kd.aT|apply Kd.aV));exact kF.out));(case aS=>exact (bW zB));(case aL=>have:=arK.out;omega);intro aoD w19 ho hb hg hat;rw [<- arL.out] at ho;obtain ⟨dZ,HB,aaL⟩:=zA3 (Kd.uG (ok:=(fun _=>True)) (by (with_reducible repeat (first|apply Kd.aN|apply Kd.aT|apply Kd.aV));exact Kd.dY dZ.out (fun _ hk=>⟨trivial,hk⟩)) hg hat) hb ho;clear ho hb hg hat)|((with_reducible refine kR (b := .append) (xs := #[.tmp 51,.tmp 58]) rfl ?_);(try (refine lV (by rfl) ?_;dsimp only));at_builtin;refine Kd.lU (Kd.int .i64) (w0:=w) w.heap.size rfl (.tmp 51) (.tmp 58) 44 2 (.int .i64 0) 8 rfl Tryz.underlying44 yM rfl (by decide) (by omega) u8 adV (wrap64 ((wrap64 ((rd l0 qE)*16384)) - (wrap64 (sG*sQ)))) [.int .i64 (wrap64 ((wrap64 ((rd l0 qE)*16384)) - (wrap64 (sG*sQ))))] (fun k_=>some k_≠(aoD:Value).ownBlock) (fun _=>False) rfl rfl ?aP (fun _ hk=>hk.elim) ?aF ?aO ?aB ?aS ?aL ?_;(case aP=>exact rfl);(case aB=>exact zB);(case aF=>exact (fun k_ hk=>Kd.fresh' (Kd.nC (by (with_reducible repeat (first|apply Kd.aN|apply Kd.aT|apply Kd.aV));exact aaL.out)) k_ hk));(case aO=>exact (by (with_reducible repeat (first|apply Kd.aN|apply Kd.aT|apply Kd.aV));exact Kd.dY dZ.out (fun _ hk=>hk.2)));(case aS=>exact (bW zB));(case aL=>have:=arM.out;omega);intro azq w20 ho hb hg hat;rw [<- arN.out] at ho;obtain ⟨aaL,HB,arO⟩:=zA3 (Kd.uG (ok:=(fun _=>True)) (by (with_reducible repeat (first|apply Kd.aN|apply Kd.aT|apply Kd.aV));exact Kd.dY aaL.out (fun _ hk=>⟨trivial,hk⟩)) hg hat) hb ho;clear ho hb hg hat)))
               go_roundg k3
               case measure=>have:=HJ1.out;have:=HK2.out;have:=HK3.out;omega
               case rel=>exact ⟨(au4),(azp),(wrap64 (aiW - sG)),(wrap64 (qE+1)),zT,zT,H',⟨by have:=HJ1.out;have:=HK2.out;have:=HK3.out;omega⟩,⟨by (with_reducible repeat (first|apply Kd.aN|apply Kd.aT|apply Kd.aV));exact Kd.dY aaL.out (fun _ hk=>hk.2)⟩,⟨by (with_reducible repeat (first|apply Kd.aN|apply Kd.aT|apply Kd.aV));exact arO.out⟩,⟨zB⟩⟩
              ·rw [if_neg c17] at H;exact absurd H (by simp)
             ·rw [if_neg c16] at H;exact absurd H (by simp)
            ·rw [if_neg c14] at H;exact absurd H (by simp)
           ·rw [if_neg c13] at H;exact absurd H (by simp)
          ·rw [if_neg c12] at H;have yU:=decide_eq_false c12;clear c12;have H':=aj.mk H;clear H;go_wp2;repeat (go_quiet (fail);try go_wp2)
           try simp only [Act.put,List.setIfInBounds_toArray,List.set_cons_succ,List.set_cons_zero]
           go_loopg [9] k3 (fun kq v9 w'=>∃ (nJ:List Int) (mZ:List Int) (ahl:Int),v9 = .int .i64 ahl/\aj (aG.l2 kq nJ mZ ahl=some (r1,r2))/\aj (kq<=k3)/\aj (Kd.R (Kd.int .i64) 2 w' w.heap.size (fun k_=>some k_≠(u8:Value).ownBlock) u7 nJ)/\aj (Kd.R (Kd.int .i64) 2 w' w.heap.size (fun k_=>some k_≠(u7:Value).ownBlock) u8 mZ)/\aj (Below w.heap.size w w'))
           case atStart=>exact ⟨(vV),(adV),(aiW),zT,H',⟨Nat.le_refl _⟩,⟨by (with_reducible repeat (first|apply Kd.aN|apply Kd.aT|apply Kd.aV));exact kF.out⟩,⟨by (with_reducible repeat (first|apply Kd.aN|apply Kd.aT|apply Kd.aV));exact dZ.out⟩,⟨zB⟩⟩
           case round =>
            clear H';try clear hx3
            obtain ⟨nJ,mZ,ahl,rfl,HA,HK4,kF,dZ,HB⟩:=hrel;cases gk with
            | zero=>exact absurd HA.out (by simp [aG.l2])
            | succ k4 =>
             have H:=HA.out;clear HA;simp only [aG.l2] at H;by_cases c21:ahl > 0
             ·rw [if_pos c21] at H;have afL:=decide_eq_true c21;clear c21;have H':=aj.mk H;clear H;obtain ⟨aiX,aat,au7⟩:=Kd.gG dZ.out;subst au7;go_wp2;repeat (go_quiet (fail);try go_wp2)
              try simp only [Act.put,List.setIfInBounds_toArray,List.set_cons_succ,List.set_cons_zero]
              go_loopg [13,68] k4 (fun kq v13 v68 w'=>∃ (gB:Int) (wJ:Int),v13 = .int .i64 gB/\v68 = .int .i64 wJ/\aj (aG.l3 kq nJ mZ ahl gB (mZ.length:Int) wJ=some (r1,r2))/\aj (kq<=k4)/\aj (Kd.R (Kd.int .i64) 2 w' w.heap.size (fun k_=>some k_≠((.slice aiX mZ.length aat):Value).ownBlock) u7 nJ)/\aj (Kd.R (Kd.int .i64) 2 w' w.heap.size (fun k_=>some k_≠(u7:Value).ownBlock) (.slice aiX mZ.length aat) mZ)/\aj (Below w.heap.size w w'))
              case atStart=>exact ⟨(0),(0),zT,zT,H',⟨Nat.le_refl _⟩,⟨by (with_reducible repeat (first|apply Kd.aN|apply Kd.aT|apply Kd.aV));exact kF.out⟩,⟨by (with_reducible repeat (first|apply Kd.aN|apply Kd.aT|apply Kd.aV));exact dZ.out⟩,⟨zB⟩⟩
              case round =>
               clear H';try clear hx3
               obtain ⟨gB,wJ,rfl,rfl,HA,HK5,kF,dZ,HB⟩:=hrel;cases gk with
               | zero=>exact absurd HA.out (by simp [aG.l3])
               | succ k5 =>
                have H:=HA.out;clear HA;simp only [aG.l3] at H;by_cases c23:wJ < (mZ.length:Int)
                ·rw [if_pos c23] at H;have akb:=decide_eq_true c23;clear c23;by_cases c24:0<=wJ
                 ·rw [if_pos c24] at H;have axh:=decide_eq_true c24;clear c24;by_cases c25:wJ < (mZ.length:Int)
                  ·rw [if_pos c25] at H;have aBV:=decide_eq_true c25;clear c25;by_cases c26:0<=gB
                   ·rw [if_pos c26] at H;have afM:=decide_eq_true c26;clear c26;by_cases c27:gB < (mZ.length:Int)
                    ·rw [if_pos c27] at H;have arP:=decide_eq_true c27;clear c27;by_cases c28:(rd mZ wJ) > (rd mZ gB)
                     ·rw [if_pos c28] at H;have arQ:=decide_eq_true c28;clear c28;have H':=aj.mk H;clear H;have aiY:0<=(wJ:Int):=of_decide_eq_true (by first|(with_reducible assumption)|assumption);have aiZ:wJ < (mZ.length:Int):=of_decide_eq_true (by first|(with_reducible assumption)|assumption);obtain ⟨arR,au8,aya⟩:=Kd.iZ (Kd.dL dZ.out).2.2 wJ aiY aiZ;cases au8;replace aiY:=eq_true aiY;replace aiZ:=eq_true aiZ;have ai0:0<=(gB:Int):=of_decide_eq_true (by first|(with_reducible assumption)|assumption);have ai1:gB < (mZ.length:Int):=of_decide_eq_true (by first|(with_reducible assumption)|assumption);obtain ⟨arS,au9,ayb⟩:=Kd.iZ (Kd.dL dZ.out).2.2 gB ai0 ai1;obtain rfl:arR=arS:=(by injection au9);replace ai0:=eq_true ai0;replace ai1:=eq_true ai1;go_wp2;repeat (go_quiet (fail);try go_wp2)
                      go_roundg k5
                      case measure=>have:=HJ1.out;have:=HK2.out;have:=HK3.out;have:=HK4.out;have:=HK5.out;omega
                      case rel=>exact ⟨(wJ),(wrap64 (wJ+1)),zT,zT,H',⟨by have:=HJ1.out;have:=HK2.out;have:=HK3.out;have:=HK4.out;have:=HK5.out;omega⟩,⟨by (with_reducible repeat (first|apply Kd.aN|apply Kd.aT|apply Kd.aV));exact kF.out⟩,⟨by (with_reducible repeat (first|apply Kd.aN|apply Kd.aT|apply Kd.aV));exact dZ.out⟩,⟨zB⟩⟩
                     ·rw [if_neg c28] at H;have arQ:=decide_eq_false c28;clear c28;have H':=aj.mk H;clear H;have aiY:0<=(wJ:Int):=of_decide_eq_true (by first|(with_reducible assumption)|assumption);have aiZ:wJ < (mZ.length:Int):=of_decide_eq_true (by first|(with_reducible assumption)|assumption);obtain ⟨arR,au8,aya⟩:=Kd.iZ (Kd.dL dZ.out).2.2 wJ aiY aiZ;cases au8;replace aiY:=eq_true aiY;replace aiZ:=eq_true aiZ;have ai0:0<=(gB:Int):=of_decide_eq_true (by first|(with_reducible assumption)|assumption);have ai1:gB < (mZ.length:Int):=of_decide_eq_true (by first|(with_reducible assumption)|assumption);obtain ⟨arS,au9,ayb⟩:=Kd.iZ (Kd.dL dZ.out).2.2 gB ai0 ai1;obtain rfl:arR=arS:=(by injection au9);replace ai0:=eq_true ai0;replace ai1:=eq_true ai1;go_wp2;repeat (go_quiet (fail);try go_wp2)
                      go_roundg k5
                      case measure=>have:=HJ1.out;have:=HK2.out;have:=HK3.out;have:=HK4.out;have:=HK5.out;omega
                      case rel=>exact ⟨(gB),(wrap64 (wJ+1)),zT,zT,H',⟨by have:=HJ1.out;have:=HK2.out;have:=HK3.out;have:=HK4.out;have:=HK5.out;omega⟩,⟨by (with_reducible repeat (first|apply Kd.aN|apply Kd.aT|apply Kd.aV));exact kF.out⟩,⟨by (with_reducible repeat (first|apply Kd.aN|apply Kd.aT|apply Kd.aV));exact dZ.out⟩,⟨zB⟩⟩
                    ·rw [if_neg c27] at H;exact absurd H (by simp)
                   ·rw [if_neg c26] at H;exact absurd H (by simp)
                  ·rw [if_neg c25] at H;exact absurd H (by simp)
                 ·rw [if_neg c24] at H;exact absurd H (by simp)
                ·rw [if_neg c23] at H;have akb:=decide_eq_false c23;clear c23;by_cases c29:0<=gB
                 ·rw [if_pos c29] at H;have aro:=decide_eq_true c29;clear c29;by_cases c30:gB < (nJ.length:Int)
                  ·rw [if_pos c30] at H;have axe:=decide_eq_true c30;clear c30;obtain ⟨alm,akc⟩:∃ y_:List Int,y_=(nJ.set (gB:Int).toNat (wrap64 ((rd nJ gB)+1))):=⟨_,rfl⟩;replace H:(if gB < (mZ.length:Int) then (aG.l2 k5 alm (mZ.set (gB:Int).toNat (-1)) (wrap64 (ahl - 1))) else (none))=some (r1,r2):=(by first|(rw [akc];with_reducible exact H)|(have H2_:=(Option.bind_some _ _).symm.trans H;rw [akc];with_reducible exact H2_)|(have H2_:=(Option.bind_some _ _).symm.trans H;with_reducible exact H2_)|with_reducible exact H|(rw [akc];exact H)|exact H);have arT:=aj.mk akc;clear akc;by_cases c32:gB < (mZ.length:Int)
                   ·rw [if_pos c32] at H;have aHS:=decide_eq_true c32;clear c32;obtain ⟨aoE,akd⟩:∃ y_:List Int,y_=(mZ.set (gB:Int).toNat (-1)):=⟨_,rfl⟩;replace H:(aG.l2 k5 alm aoE (wrap64 (ahl - 1)))=some (r1,r2):=(by first|(rw [akd];with_reducible exact H)|(have H2_:=(Option.bind_some _ _).symm.trans H;rw [akd];with_reducible exact H2_)|(have H2_:=(Option.bind_some _ _).symm.trans H;with_reducible exact H2_)|with_reducible exact H|(rw [akd];exact H)|exact H);have arU:=aj.mk akd;clear akd;have H':=aj.mk H;clear H;obtain ⟨aDm,xX,ava⟩:=Kd.gG kF.out;subst ava;have avb:0<=(gB:Int):=of_decide_eq_true (by first|(with_reducible assumption)|assumption);have avc:gB < (nJ.length:Int):=of_decide_eq_true (by first|(with_reducible assumption)|assumption);obtain ⟨aHT,aDn,ayc⟩:=Kd.iZ (Kd.dL kF.out).2.2 gB avb avc;cases aDn;replace avb:=eq_true avb;replace avc:=eq_true avc;have p31:0<=(gB:Int):=of_decide_eq_true (by first|(with_reducible assumption)|assumption);have q31:(gB:Int) < ((nJ.length:Int):Int):=of_decide_eq_true (by first|(with_reducible assumption)|assumption);obtain ⟨sU,aIW,azr,azs,aDo,aIX,azt⟩:=Kd.ae2 kF.out (by omega)
                    (first|cases azr|(injection azr with ea_ en_ ec_;(first|subst ea_|(injection ea_ with ea_;subst ea_));subst ec_;clear en_))
                    have avd:=aj.mk azs;have aIY:=aj.mk azt;clear azs aDo azt
                    (first|simp only [add_plain] at ayc|skip)
                    obtain ⟨aFK,aFL⟩:=Kd.yA 0 kF.out (gB:Int) p31 q31;replace p31:=eq_true p31;replace q31:=eq_true q31;have ac2:=Kd.aaB kF.out (gB:Int) (wrap64 ((rd nJ gB)+1));go_wp2_with (first|((with_reducible refine zY (t:=2) (p:=87) rfl ?_);(try (rw [qw wr];generalize hq_:World.drewN wr _=wr;obtain ⟨kF,dZ,HB⟩:=zA3 (Kd.adW hq_ kF.out) (Kd.adW hq_ dZ.out) (adX hq_ HB.out);(try (have ac2:=Kd.aaB kF.out (gB:Int) (wrap64 ((rd nJ gB)+1))))));refine yB (t:=2) (p:=87) (v := ?atg) (w1:=(wr.setCell ⟨sU,(gB:Int).toNat,none⟩ (.int .i64 (wrap64 ((rd nJ gB)+1))))) ?hg ?ho ?hn ?hr ?_;(case ho=>rfl);(case hg=>rfl);(case hn=>rfl);(case hr=>first|(go_simp;done)|(go_simp;rfl));intro w36 hw;have hg:wr.grownBy w36 (some sU):=(by rw [hw];exact ac2.2);have hp_:Kd.R (Kd.int .i64) 2 w36 w.heap.size (fun k_=>some k_≠(.slice aiX mZ.length aat:Value).ownBlock) (.slice (some ⟨sU,0,none⟩) nJ.length xX) alm:=(by rw [hw,arT.out];exact ac2.1);clear ac2;obtain ⟨kF,dZ,HB⟩:=zA3 hp_ (Kd.uG (v:=(.slice (some ⟨sU,0,none⟩) nJ.length xX)) (v1:=(.slice (some ⟨sU,0,none⟩) nJ.length xX)) (ok:=(fun _=>True)) (by (with_reducible repeat (first|apply Kd.aN|apply Kd.aT|apply Kd.aV));exact Kd.dY dZ.out (fun _ hk=>⟨trivial,hk⟩)) hg (.inl rfl)) ((by rw [hw];exact uJ (HB.out) avd.out:Below w.heap.size w w36));clear hg hw hp_;have p33:0<=(gB:Int):=of_decide_eq_true (by first|(with_reducible assumption)|assumption);have q33:(gB:Int) < ((mZ.length:Int):Int):=of_decide_eq_true (by first|(with_reducible assumption)|assumption);obtain ⟨zC,ave,aeQ,ahm,aoF,azu,ahn⟩:=Kd.ae2 dZ.out (by omega);(first|cases aeQ|(injection aeQ with ea_ en_ ec_;(first|subst ea_|(injection ea_ with ea_;subst ea_));subst ec_;clear en_));have aoG:=aj.mk ahm;have azv:=aj.mk ahn;clear ahm aoF ahn;obtain ⟨ath,ati⟩:=Kd.yA 0 dZ.out (gB:Int) p33 q33;replace p33:=eq_true p33;replace q33:=eq_true q33;have n_:=aj.mk (Kd.dY (ok':=(fun k_=>some k_≠(.slice (some ⟨sU,0,none⟩) nJ.length xX:Value).ownBlock)) dZ.out (fun k_ hk=>hk.2));clear dZ;have dZ:=n_;clear n_;obtain ⟨ake,akf⟩:=Kd.yA 0 dZ.out (gB:Int) (of_decide_eq_true (by first|(with_reducible assumption)|assumption)) (of_decide_eq_true (by first|(with_reducible assumption)|assumption));have abI:=Kd.aaB dZ.out (gB:Int) (-1))|((with_reducible refine zY (t:=2) (p:=90) rfl ?_);(try (rw [qw w36];generalize hq_:World.drewN w36 _=w36;obtain ⟨kF,dZ,HB⟩:=zA3 (Kd.adW hq_ kF.out) (Kd.adW hq_ dZ.out) (adX hq_ HB.out);(try (have n_:=aj.mk (Kd.dY (ok':=(fun k_=>some k_≠(.slice (some ⟨sU,0,none⟩) nJ.length xX:Value).ownBlock)) dZ.out (fun k_ hk=>hk.2));clear dZ;have dZ:=n_;clear n_));(try (obtain ⟨ake,akf⟩:=Kd.yA 0 dZ.out (gB:Int) (of_decide_eq_true (by first|(with_reducible assumption)|assumption)) (of_decide_eq_true (by first|(with_reducible assumption)|assumption))));(try (have abI:=Kd.aaB dZ.out (gB:Int) (-1)))));refine yB (t:=2) (p:=90) (v := ?atj) (w1:=(w36.setCell ⟨zC,(gB:Int).toNat,none⟩ (.int .i64 (-1)))) ?hg ?ho ?hn ?hr ?_;(case ho=>rfl);(case hg=>rfl);(case hn=>rfl);(case hr=>first|(go_simp;done)|(go_simp;rfl));intro w38 hw;have hg:w36.grownBy w38 (some zC):=(by rw [hw];exact abI.2);have hp_:Kd.R (Kd.int .i64) 2 w38 w.heap.size (fun k_=>some k_≠(.slice (some ⟨sU,0,none⟩) nJ.length xX:Value).ownBlock) (.slice (some ⟨zC,0,none⟩) mZ.length aat) aoE:=(by rw [hw,arU.out];exact abI.1);clear abI;obtain ⟨kF,dZ,HB⟩:=zA3 (Kd.uG (v:=(.slice (some ⟨zC,0,none⟩) mZ.length aat)) (v1:=(.slice (some ⟨zC,0,none⟩) mZ.length aat)) (ok:=(fun _=>True)) (by (with_reducible repeat (first|apply Kd.aN|apply Kd.aT|apply Kd.aV));exact Kd.dY kF.out (fun _ hk=>⟨trivial,hk⟩)) hg (.inl rfl)) hp_ ((by rw [hw];exact uJ (HB.out) aoG.out:Below w.heap.size w w38));clear hg hw hp_));repeat (go_quiet (first|((with_reducible refine zY (t:=2) (p:=87) rfl ?_);(try (rw [qw wr];generalize hq_:World.drewN wr _=wr;obtain ⟨kF,dZ,HB⟩:=zA3 (Kd.adW hq_ kF.out) (Kd.adW hq_ dZ.out) (adX hq_ HB.out);(try (have ac2:=Kd.aaB kF.out (gB:Int) (wrap64 ((rd nJ gB)+1))))));refine yB (t:=2) (p:=87) (v := ?atg) (w1:=(wr.setCell ⟨sU,(gB:Int).toNat,none⟩ (.int .i64 (wrap64 ((rd nJ gB)+1))))) ?hg ?ho ?hn ?hr ?_;(case ho=>rfl);(case hg=>rfl);(case hn=>rfl);(case hr=>first|(go_simp;done)|(go_simp;rfl));intro w36 hw;have hg:wr.grownBy w36 (some sU):=(by rw [hw];exact ac2.2);have hp_:Kd.R (Kd.int .i64) 2 w36 w.heap.size (fun k_=>some k_≠(.slice aiX mZ.length aat:Value).ownBlock) (.slice (some ⟨sU,0,none⟩) nJ.length xX) alm:=(by rw [hw,arT.out];exact ac2.1);clear ac2;obtain ⟨kF,dZ,HB⟩:=zA3 hp_ (Kd.uG (v:=(.slice (some ⟨sU,0,none⟩) nJ.length xX)) (v1:=(.slice (some ⟨sU,0,none⟩) nJ.length xX)) (ok:=(fun _=>True)) (by (with_reducible repeat (first|apply Kd.aN|apply Kd.aT|apply Kd.aV));exact Kd.dY dZ.out (fun _ hk=>⟨trivial,hk⟩)) hg (.inl rfl)) ((by rw [hw];exact uJ (HB.out) avd.out:Below w.heap.size w w36));clear hg hw hp_;have p33:0<=(gB:Int):=of_decide_eq_true (by first|(with_reducible assumption)|assumption);have q33:(gB:Int) < ((mZ.length:Int):Int):=of_decide_eq_true (by first|(with_reducible assumption)|assumption);obtain ⟨zC,ave,aeQ,ahm,aoF,azu,ahn⟩:=Kd.ae2 dZ.out (by omega);(first|cases aeQ|(injection aeQ with ea_ en_ ec_;(first|subst ea_|(injection ea_ with ea_;subst ea_));subst ec_;clear en_));have aoG:=aj.mk ahm;have azv:=aj.mk ahn;clear ahm aoF ahn;obtain ⟨ath,ati⟩:=Kd.yA 0 dZ.out (gB:Int) p33 q33;replace p33:=eq_true p33;replace q33:=eq_true q33;have n_:=aj.mk (Kd.dY (ok':=(fun k_=>some k_≠(.slice (some ⟨sU,0,none⟩) nJ.length xX:Value).ownBlock)) dZ.out (fun k_ hk=>hk.2));clear dZ;have dZ:=n_;clear n_;obtain ⟨ake,akf⟩:=Kd.yA 0 dZ.out (gB:Int) (of_decide_eq_true (by first|(with_reducible assumption)|assumption)) (of_decide_eq_true (by first|(with_reducible assumption)|assumption));have abI:=Kd.aaB dZ.out (gB:Int) (-1))|((with_reducible refine zY (t:=2) (p:=90) rfl ?_);(try (rw [qw w36];generalize hq_:World.drewN w36 _=w36;obtain ⟨kF,dZ,HB⟩:=zA3 (Kd.adW hq_ kF.out) (Kd.adW hq_ dZ.out) (adX hq_ HB.out);(try (have n_:=aj.mk (Kd.dY (ok':=(fun k_=>some k_≠(.slice (some ⟨sU,0,none⟩) nJ.length xX:Value).ownBlock)) dZ.out (fun k_ hk=>hk.2));clear dZ;have dZ:=n_;clear n_));(try (obtain ⟨ake,akf⟩:=Kd.yA 0 dZ.out (gB:Int) (of_decide_eq_true (by first|(with_reducible assumption)|assumption)) (of_decide_eq_true (by first|(with_reducible assumption)|assumption))));(try (have abI:=Kd.aaB dZ.out (gB:Int) (-1)))));refine yB (t:=2) (p:=90) (v := ?atj) (w1:=(w36.setCell ⟨zC,(gB:Int).toNat,none⟩ (.int .i64 (-1)))) ?hg ?ho ?hn ?hr ?_;(case ho=>rfl);(case hg=>rfl);(case hn=>rfl);(case hr=>first|(go_simp;done)|(go_simp;rfl));intro w38 hw;have hg:w36.grownBy w38 (some zC):=(by rw [hw];exact abI.2);have hp_:Kd.R (Kd.int .i64) 2 w38 w.heap.size (fun k_=>some k_≠(.slice (some ⟨sU,0,none⟩) nJ.length xX:Value).ownBlock) (.slice (some ⟨zC,0,none⟩) mZ.length aat) aoE:=(by rw [hw,arU.out];exact abI.1);clear abI;obtain ⟨kF,dZ,HB⟩:=zA3 (Kd.uG (v:=(.slice (some ⟨zC,0,none⟩) mZ.length aat)) (v1:=(.slice (some ⟨zC,0,none⟩) mZ.length aat)) (ok:=(fun _=>True)) (by (with_reducible repeat (first|apply Kd.aN|apply Kd.aT|apply Kd.aV));exact Kd.dY kF.out (fun _ hk=>⟨trivial,hk⟩)) hg (.inl rfl)) hp_ ((by rw [hw];exact uJ (HB.out) aoG.out:Below w.heap.size w w38));clear hg hw hp_));try go_wp2_with (first|((with_reducible refine zY (t:=2) (p:=87) rfl ?_);(try (rw [qw wr];generalize hq_:World.drewN wr _=wr;obtain ⟨kF,dZ,HB⟩:=zA3 (Kd.adW hq_ kF.out) (Kd.adW hq_ dZ.out) (adX hq_ HB.out);(try (have ac2:=Kd.aaB kF.out (gB:Int) (wrap64 ((rd nJ gB)+1))))));refine yB (t:=2) (p:=87) (v := ?atg) (w1:=(wr.setCell ⟨sU,(gB:Int).toNat,none⟩ (.int .i64 (wrap64 ((rd nJ gB)+1))))) ?hg ?ho ?hn ?hr ?_;(case ho=>rfl);(case hg=>rfl);(case hn=>rfl);(case hr=>first|(go_simp;done)|(go_simp;rfl));intro w36 hw;have hg:wr.grownBy w36 (some sU):=(by rw [hw];exact ac2.2);have hp_:Kd.R (Kd.int .i64) 2 w36 w.heap.size (fun k_=>some k_≠(.slice aiX mZ.length aat:Value).ownBlock) (.slice (some ⟨sU,0,none⟩) nJ.length xX) alm:=(by rw [hw,arT.out];exact ac2.1);clear ac2;obtain ⟨kF,dZ,HB⟩:=zA3 hp_ (Kd.uG (v:=(.slice (some ⟨sU,0,none⟩) nJ.length xX)) (v1:=(.slice (some ⟨sU,0,none⟩) nJ.length xX)) (ok:=(fun _=>True)) (by (with_reducible repeat (first|apply Kd.aN|apply Kd.aT|apply Kd.aV));exact Kd.dY dZ.out (fun _ hk=>⟨trivial,hk⟩)) hg (.inl rfl)) ((by rw [hw];exact uJ (HB.out) avd.out:Below w.heap.size w w36));clear hg hw hp_;have p33:0<=(gB:Int):=of_decide_eq_true (by first|(with_reducible assumption)|assumption);have q33:(gB:Int) < ((mZ.length:Int):Int):=of_decide_eq_true (by first|(with_reducible assumption)|assumption);obtain ⟨zC,ave,aeQ,ahm,aoF,azu,ahn⟩:=Kd.ae2 dZ.out (by omega);(first|cases aeQ|(injection aeQ with ea_ en_ ec_;(first|subst ea_|(injection ea_ with ea_;subst ea_));subst ec_;clear en_));have aoG:=aj.mk ahm;have azv:=aj.mk ahn;clear ahm aoF ahn;obtain ⟨ath,ati⟩:=Kd.yA 0 dZ.out (gB:Int) p33 q33;replace p33:=eq_true p33;replace q33:=eq_true q33;have n_:=aj.mk (Kd.dY (ok':=(fun k_=>some k_≠(.slice (some ⟨sU,0,none⟩) nJ.length xX:Value).ownBlock)) dZ.out (fun k_ hk=>hk.2));clear dZ;have dZ:=n_;clear n_;obtain ⟨ake,akf⟩:=Kd.yA 0 dZ.out (gB:Int) (of_decide_eq_true (by first|(with_reducible assumption)|assumption)) (of_decide_eq_true (by first|(with_reducible assumption)|assumption));have abI:=Kd.aaB dZ.out (gB:Int) (-1))|((with_reducible refine zY (t:=2) (p:=90) rfl ?_);(try (rw [qw w36];generalize hq_:World.drewN w36 _=w36;obtain ⟨kF,dZ,HB⟩:=zA3 (Kd.adW hq_ kF.out) (Kd.adW hq_ dZ.out) (adX hq_ HB.out);(try (have n_:=aj.mk (Kd.dY (ok':=(fun k_=>some k_≠(.slice (some ⟨sU,0,none⟩) nJ.length xX:Value).ownBlock)) dZ.out (fun k_ hk=>hk.2));clear dZ;have dZ:=n_;clear n_));(try (obtain ⟨ake,akf⟩:=Kd.yA 0 dZ.out (gB:Int) (of_decide_eq_true (by first|(with_reducible assumption)|assumption)) (of_decide_eq_true (by first|(with_reducible assumption)|assumption))));(try (have abI:=Kd.aaB dZ.out (gB:Int) (-1)))));refine yB (t:=2) (p:=90) (v := ?atj) (w1:=(w36.setCell ⟨zC,(gB:Int).toNat,none⟩ (.int .i64 (-1)))) ?hg ?ho ?hn ?hr ?_;(case ho=>rfl);(case hg=>rfl);(case hn=>rfl);(case hr=>first|(go_simp;done)|(go_simp;rfl));intro w38 hw;have hg:w36.grownBy w38 (some zC):=(by rw [hw];exact abI.2);have hp_:Kd.R (Kd.int .i64) 2 w38 w.heap.size (fun k_=>some k_≠(.slice (some ⟨sU,0,none⟩) nJ.length xX:Value).ownBlock) (.slice (some ⟨zC,0,none⟩) mZ.length aat) aoE:=(by rw [hw,arU.out];exact abI.1);clear abI;obtain ⟨kF,dZ,HB⟩:=zA3 (Kd.uG (v:=(.slice (some ⟨zC,0,none⟩) mZ.length aat)) (v1:=(.slice (some ⟨zC,0,none⟩) mZ.length aat)) (ok:=(fun _=>True)) (by (with_reducible repeat (first|apply Kd.aN|apply Kd.aT|apply Kd.aV));exact Kd.dY kF.out (fun _ hk=>⟨trivial,hk⟩)) hg (.inl rfl)) hp_ ((by rw [hw];exact uJ (HB.out) aoG.out:Below w.heap.size w w38));clear hg hw hp_)))
                    go_roundg k5
                    case measure=>have:=HJ1.out;have:=HK2.out;have:=HK3.out;have:=HK4.out;have:=HK5.out;omega
                    case rel=>exact ⟨(alm),(aoE),(wrap64 (ahl - 1)),zT,H',⟨by have:=HJ1.out;have:=HK2.out;have:=HK3.out;have:=HK4.out;have:=HK5.out;omega⟩,⟨by (with_reducible repeat (first|apply Kd.aN|apply Kd.aT|apply Kd.aV));exact Kd.dY kF.out (fun _ hk=>hk.2)⟩,⟨by (with_reducible repeat (first|apply Kd.aN|apply Kd.aT|apply Kd.aV));exact dZ.out⟩,⟨zB⟩⟩
                   ·rw [if_neg c32] at H;exact absurd H (by simp)
                  ·rw [if_neg c30] at H;exact absurd H (by simp)
                 ·rw [if_neg c29] at H;exact absurd H (by simp)
             ·rw [if_neg c21] at H;have afL:=decide_eq_false c21;clear c21;simp only [Option.some.injEq,Prod.mk.injEq] at H;obtain ⟨rfl,rfl⟩:=H;go_wp2;repeat (go_quiet (fail);try go_wp2)
              go_ret2;exact ⟨_,zS,by (with_reducible repeat (first|apply Kd.aN|apply Kd.aT|apply Kd.aV));exact Kd.dY kF.out (fun _ hk=>trivial),zB⟩
mutual
def dw.j0:Nat->Int->Int->Int->Bool->Option ((List (jr)) × Int)
 | 0,_,_,_,_=>none
 | k+1,x0,x1,x2,x29=>if x29=true then (some (([]:List (jr)),6)) else (dw.l0 k x0 x1 x2 ([]:List (jr)) x2 0)
def dw.l0:Nat->Int->Int->Int->List (jr)->Int->Int->Option ((List (jr)) × Int)
 | 0,_,_,_,_,_,_=>none
 | k+1,x0,x1,x2,x8,x30,x31=>if x31 < x30 then ((dh.f k x0 x1 x2 x31).bind fun axi=>((aG.f k axi.2).bind fun arV=>(if arV.2=0 then (if x8.length < 4398046511104 then (dw.l0 k x0 x1 x2 (x8 ++ [(⟨axi.1,arV.1⟩:jr)]) x30 (wrap64 (x31+1))) else (none)) else (some (([]:List (jr)),arV.2))))) else (some (x8,0))
end
def dw.f (k:Nat) (a0 a1 a2:Int):Option ((List (jr)) × Int):=if a0 < 0 then (dw.j0 k a0 a1 a2 true) else (if a0 > 2 then (dw.j0 k a0 a1 a2 true) else ((jq.f a1).bind fun avf=>(if avf=true then ((jq.f a2).bind fun arW=>(dw.j0 k a0 a1 a2 (!arW))) else (dw.j0 k a0 a1 a2 true))))
theorem dw.calls (k:Nat) (a0 a1 a2:Int) (r1:List (jr)) (r2:Int) (w:World) (h:dw.f k a0 a1 a2=some (r1,r2)) :
  Calls Tryz.prog 93 #[.int .i64 a0,.int .i64 a1,.int .i64 a2] w fun e w'=>∃ v0_:Value,e = .returned (.tuple #[v0_,.int .i64 r2])/\Kd.S tV 138 w' w.heap.size (fun _=>True) v0_ r1/\Below w.heap.size w w':=by
 have aHU:=Tryz.underlying138;have HB:=aj.mk (Below.refl w.heap.size w);have H:=h;clear h;unfold dw.f at H;have HC4:=aj.mk H;clear H;go_enter Tryz.func93,Tryz.ntmps93;go_upto_region 1 with (fail);go_cut [29] (fun v29 wc=>∃ (kq:Nat) (ano:Bool),v29 = .bool ano/\aj (dw.j0 kq a0 a1 a2 ano=some (r1,r2))/\aj (kq<=k)/\aj (Below w.heap.size w wc))
 case first =>
  have H:=HC4.out;clear HC4;by_cases c5:a0 < 0
  ·rw [if_pos c5] at H;have gJ:=decide_eq_true c5;clear c5
   (first|rw [gJ]|(simp only [bP,bU];rw [gJ])|skip)
   have H':=aj.mk H;clear H;go_wp2;go_meet
   case rel=>exact ⟨_,(true),zT,H',⟨by first|omega|exact Nat.le_refl _⟩,⟨zB⟩⟩
  ·rw [if_neg c5] at H;have gJ:=decide_eq_false c5;clear c5
   (first|rw [gJ]|(simp only [bP,bU];rw [gJ])|skip)
   by_cases c6:a0 > 2
   ·rw [if_pos c6] at H;have gI:=decide_eq_true c6;clear c6;have H':=aj.mk H;clear H;go_wp2;go_meet
    case rel=>exact ⟨_,(true),zT,H',⟨by first|omega|exact Nat.le_refl _⟩,⟨zB⟩⟩
   ·rw [if_neg c6] at H;have gI:=decide_eq_false c6;clear c6;replace H:=zO H;obtain ⟨avf,A7,H⟩:=H;try dsimp only at H
    by_cases c8:avf=true
    ·subst c8;rw [if_pos rfl] at H;(try dsimp only at H);replace H:=zO H;obtain ⟨arW,A9,H⟩:=H;try dsimp only at H
     have H':=aj.mk H;clear H;go_wp2_with (first|(go_at_call 113;(with_reducible refine (jq.calls a1 true _ A7.out).mono ?_);rintro e w' ⟨rfl,⟨nd,rfl⟩⟩)|(go_at_call 113;(with_reducible refine (jq.calls a2 arW _ A9.out).mono ?_);rintro e w' ⟨rfl,⟨nd,rfl⟩⟩));go_meet
     case rel=>exact ⟨_,(!arW),zT,H',⟨by first|omega|exact Nat.le_refl _⟩,⟨zB⟩⟩
    ·replace c8:=Bool.eq_false_iff.mpr c8;subst c8;rw [if_neg (show ¬ (false=true) by decide)] at H;(try dsimp only at H);have H':=aj.mk H;clear H;go_wp2_with (first|(go_at_call 113;(with_reducible refine (jq.calls a1 false _ A7.out).mono ?_);rintro e w' ⟨rfl,⟨nd,rfl⟩⟩));go_meet
     case rel=>exact ⟨_,(true),zT,H',⟨by first|omega|exact Nat.le_refl _⟩,⟨zB⟩⟩
 case rest =>
  clear HC4;obtain ⟨kq,ano,rfl,HA,HJ3,HB⟩:=hcut;cases kq with
  | zero=>exact absurd HA.out (by simp [dw.j0])
  | succ kj3 =>
   have H:=HA.out;clear HA;simp only [dw.j0] at H;by_cases c10:ano=true
   ·subst c10;rw [if_pos rfl] at H;(try dsimp only at H);simp only [Option.some.injEq,Prod.mk.injEq] at H;obtain ⟨rfl,rfl⟩:=H;go_wp2;go_ret2;exact ⟨_,zS,by first|exact Kd.qp _ _ _ _ _|exact Kd.qO _ _ _ _ _|exact Kd.oU _ _ _ _ _|exact Kd.qP _ _ _ _ _|exact Kd.kJ _ _ _ _ _,zB⟩
   ·replace c10:=Bool.eq_false_iff.mpr c10;subst c10;rw [if_neg (show ¬ (false=true) by decide)] at H;(try dsimp only at H);have H':=aj.mk H;clear H;go_wp2;go_loopg [8,31] kj3 (fun kq v8 v31 w'=>∃ (mY:List (jr)) (acw:Int),v31 = .int .i64 acw/\aj (dw.l0 kq a0 a1 a2 mY a2 acw=some (r1,r2))/\aj (kq<=kj3)/\aj (Kd.S tV 138 w' w.heap.size (fun _=>True) v8 mY)/\aj (Below w.heap.size w w'))
    case atStart=>exact ⟨(([]:List (jr))),(0),zT,H',⟨Nat.le_refl _⟩,⟨by first|exact Kd.qp _ _ _ _ _|exact Kd.qO _ _ _ _ _|exact Kd.oU _ _ _ _ _|exact Kd.qP _ _ _ _ _|exact Kd.kJ _ _ _ _ _⟩,⟨zB⟩⟩
    case round =>
     clear H';obtain ⟨mY,acw,rfl,HA,HK2,dZ,HB⟩:=hrel;cases gk with
     | zero=>exact absurd HA.out (by simp [dw.l0])
     | succ k2 =>
      have H:=HA.out;clear HA;simp only [dw.l0] at H;by_cases c11:acw < a2
      ·rw [if_pos c11] at H;have jy:=decide_eq_true c11;clear c11;replace H:=zO H;obtain ⟨⟨aln,afN⟩,A12,H⟩:=H;try dsimp only at H
       replace H:=zO H;obtain ⟨⟨ai2,ai3⟩,A13,H⟩:=H;try dsimp only at H
       by_cases c14:ai3=0
       ·rw [if_pos c14] at H;have acu:(ai3 == 0)=true:=beq_iff_eq.mpr c14;have anp:(ai3 != 0)=false:=bne_eq_false_iff_eq.mpr c14;clear c14;by_cases c15:mY.length < 4398046511104
        ·rw [if_pos c15] at H;have arG:=aj.mk c15;clear c15;obtain ⟨azw,akg⟩:∃ y_:List (jr),y_=(mY ++ [(⟨aln,ai2⟩:jr)]):=⟨_,rfl⟩;replace H:(dw.l0 k2 a0 a1 a2 azw a2 (wrap64 (acw+1)))=some (r1,r2):=(by first|(rw [akg];with_reducible exact H)|(have H2_:=(Option.bind_some _ _).symm.trans H;rw [akg];with_reducible exact H2_)|(have H2_:=(Option.bind_some _ _).symm.trans H;with_reducible exact H2_)|with_reducible exact H|(rw [akg];exact H)|exact H);have aBW:=aj.mk akg;clear akg;have H':=aj.mk H;clear H;go_wp2_with (first|((with_reducible refine ay (f:=114) rfl ?_);refine aH (some 39) rfl rfl Tryz.func114 (by kernel_rfl) rfl #[.int .i64 a0,.int .i64 a1,.int .i64 a2,.int .i64 acw] rfl zL ?_;(with_reducible refine (dh.calls k2 a0 a1 a2 acw aln afN _ A12.out).mono ?_);rintro e w16 ⟨aDp,rfl,ho0,hb⟩;refine ⟨_,rfl,?_⟩;obtain ⟨dZ,wK,HB⟩:=zA3 (Kd.afm (by (with_reducible repeat (first|apply Kd.ach|apply Kd.aci|apply Kd.adY));exact dZ.out) (Kd.jT ho0) hb) (Kd.ig ho0 (bW zB)) (ak zB hb);(try clear hb);(try clear ho0);obtain ⟨arX,arY,aDq⟩:=Kd.gG wK.out;subst aDq)|((with_reducible refine ay (f:=115) rfl ?_);refine aH (some 44) rfl rfl Tryz.func115 (by kernel_rfl) rfl #[.slice arX afN.length arY] rfl zL ?_;(with_reducible refine (aG.calls k2 _ _ afN ai2 ai3 _ ?iD ?iE A13.out).mono ?_);(case iD=>repeat (first|exact (Kd.dL wK.out).2.2|(with_reducible refine Kd.iU ?_ _)|(with_reducible refine Kd.jh ?_ _)|(with_reducible refine Kd.jI ?_)));(case iE=>exact (Kd.dL wK.out).2.1);rintro e w18 ⟨aDr,rfl,ho0,hb⟩;refine ⟨_,rfl,?_⟩;obtain ⟨dZ,wK,anq,HB⟩:=zA4 (Kd.afm (by (with_reducible repeat (first|apply Kd.ach|apply Kd.aci|apply Kd.adY));exact dZ.out) (Kd.jT ho0) hb) (Kd.jl (by (with_reducible repeat (first|apply Kd.aN|apply Kd.aT|apply Kd.aV));exact wK.out) (Kd.jT ho0) hb) (Kd.ig (Kd.lC ho0 (Kd.nC (by (with_reducible repeat (first|apply Kd.aN|apply Kd.aT|apply Kd.aV));exact wK.out))) (bW zB)) (ak zB hb);(try clear hb);(try clear ho0);obtain ⟨aoH,aoI,aoJ⟩:=Kd.gG anq.out;subst aoJ)|((with_reducible refine kR (b := .append) (xs := #[.tmp 50,.tmp 54]) rfl ?_);at_builtin;refine Kd.atO tV (w0:=w) w.heap.size rfl (.tmp 50) (.tmp 54) 39 138 (.agg #[(.int .i64 0),(.slice none 0 0)]) 32 rfl Tryz.underlying39 axP rfl (by decide) (by omega) u8 mY (⟨aln,ai2⟩:jr) [.int .i64 aln,.slice aoH ai2.length aoI] (fun k_=>some k_≠(.slice arX afN.length arY:Value).ownBlock) (fun k_=>some k_=(.slice aoH ai2.length aoI:Value).ownBlock) rfl rfl ?aP (fun k_ hk_=>((Kd.dY (ok':=fun k_=>((fun k_=>some k_≠(.slice arX afN.length arY:Value).ownBlock)) k_/\some k_≠(u8:Value).ownBlock) (Kd.anN (anq.out) (Kd.ak4 dZ.out) (by decide)) (fun k_ hk=>⟨hk.1.2,hk.2⟩))).1 k_ hk_.symm) ?aF ?aO ?aB ?aS ?aL ?_;(case aP=>exact anU _ _ _ (⟨aln,ai2⟩:jr) (Kd.dY (Kd.axM rfl (Kd.dY (ok':=fun k_=>((fun k_=>some k_≠(.slice arX afN.length arY:Value).ownBlock)) k_/\some k_≠(u8:Value).ownBlock) (Kd.anN (anq.out) (Kd.ak4 dZ.out) (by decide)) (fun k_ hk=>⟨hk.1.2,hk.2⟩))) (fun _ h_=>h_)));(case aB=>exact zB);(case aF=>exact (fun k_ hk=>Kd.fresh' (Kd.nC (by (with_reducible repeat (first|apply Kd.aN|apply Kd.aT|apply Kd.aV));exact wK.out)) k_ hk));(case aO=>exact (by (with_reducible repeat (first|apply Kd.ach|apply Kd.aci|apply Kd.adY));exact Kd.asO dZ.out (fun k_ hk=>⟨hk.1.2,fun e_=>hk.2 e_⟩)));(case aS=>exact (bW zB));(case aL=>have:=arG.out;omega);intro aIZ w20 ho hb hg hat;rw [<- aBW.out] at ho;obtain ⟨wK,HB,aBX⟩:=zA3 (Kd.axL (by (with_reducible repeat (first|apply Kd.aN|apply Kd.aT|apply Kd.aV));exact wK.out) (Kd.ak4 (by (with_reducible repeat (first|apply Kd.ach|apply Kd.aci|apply Kd.adY));exact dZ.out)) (by decide) hg) hb ho;clear ho hb hg hat));go_roundg k2
         case measure=>have:=HJ3.out;have:=HK2.out;omega
         case rel=>exact ⟨(azw),(wrap64 (acw+1)),zT,H',⟨by have:=HJ3.out;have:=HK2.out;omega⟩,⟨by (with_reducible repeat (first|apply Kd.ach|apply Kd.aci|apply Kd.adY));exact Kd.asO aBX.out (fun _ hk=>trivial)⟩,⟨zB⟩⟩
        ·rw [if_neg c15] at H;exact absurd H (by simp)
       ·rw [if_neg c14] at H;have acu:(ai3 == 0)=false:=beq_eq_false_iff_ne.mpr c14;have anp:(ai3 != 0)=true:=bne_iff_ne.mpr c14;simp only [Option.some.injEq,Prod.mk.injEq] at H;obtain ⟨rfl,rfl⟩:=H;go_wp2_with (first|((with_reducible refine ay (f:=114) rfl ?_);refine aH (some 39) rfl rfl Tryz.func114 (by kernel_rfl) rfl #[.int .i64 a0,.int .i64 a1,.int .i64 a2,.int .i64 acw] rfl zL ?_;(with_reducible refine (dh.calls k2 a0 a1 a2 acw aln afN _ A12.out).mono ?_);rintro e w21 ⟨aDp,rfl,ho0,hb⟩;refine ⟨_,rfl,?_⟩;obtain ⟨dZ,wK,HB⟩:=zA3 (Kd.afm (by (with_reducible repeat (first|apply Kd.ach|apply Kd.aci|apply Kd.adY));exact dZ.out) (Kd.jT ho0) hb) (Kd.ig ho0 (bW zB)) (ak zB hb);(try clear hb);(try clear ho0);obtain ⟨aiX,aat,au7⟩:=Kd.gG wK.out;subst au7)|((with_reducible refine ay (f:=115) rfl ?_);refine aH (some 44) rfl rfl Tryz.func115 (by kernel_rfl) rfl #[.slice aiX afN.length aat] rfl zL ?_;(with_reducible refine (aG.calls k2 _ _ afN ai2 ai3 _ ?iD ?iE A13.out).mono ?_);(case iD=>repeat (first|exact (Kd.dL wK.out).2.2|(with_reducible refine Kd.iU ?_ _)|(with_reducible refine Kd.jh ?_ _)|(with_reducible refine Kd.jI ?_)));(case iE=>exact (Kd.dL wK.out).2.1);rintro e w23 ⟨aDr,rfl,ho0,hb⟩;refine ⟨_,rfl,?_⟩;obtain ⟨dZ,wK,anq,HB⟩:=zA4 (Kd.afm (by (with_reducible repeat (first|apply Kd.ach|apply Kd.aci|apply Kd.adY));exact dZ.out) (Kd.jT ho0) hb) (Kd.jl (by (with_reducible repeat (first|apply Kd.aN|apply Kd.aT|apply Kd.aV));exact wK.out) (Kd.jT ho0) hb) (Kd.ig (Kd.lC ho0 (Kd.nC (by (with_reducible repeat (first|apply Kd.aN|apply Kd.aT|apply Kd.aV));exact wK.out))) (bW zB)) (ak zB hb);(try clear hb);(try clear ho0)));go_ret2;exact ⟨_,zS,by first|exact Kd.qp _ _ _ _ _|exact Kd.qO _ _ _ _ _|exact Kd.oU _ _ _ _ _|exact Kd.qP _ _ _ _ _|exact Kd.kJ _ _ _ _ _,zB⟩
      ·rw [if_neg c11] at H;have jy:=decide_eq_false c11;clear c11;simp only [Option.some.injEq,Prod.mk.injEq] at H;obtain ⟨rfl,rfl⟩:=H;go_wp2;go_ret2;exact ⟨_,zS,by (with_reducible repeat (first|apply Kd.ach|apply Kd.aci|apply Kd.adY));exact dZ.out,zB⟩
mutual
def eP.j0:Nat->Int->Option (Int)
 | 0,_=>none
 | k+1,x0=>(fC.f k x0 762123384786).bind fun ac3=>(eP.l0 k ac3 (wrap64 (x0 - (wrap64 (ac3*762123384786)))) 1099511627776 0 1099511627776 1)
def eP.l0:Nat->Int->Int->Int->Int->Int->Int->Option (Int)
 | 0,_,_,_,_,_,_=>none
 | k+1,x3,x4,x5,x6,x7,x8=>if x8<=16 then ((bF.f k x7 x4 (wrap64 (x8*1099511627776))).bind fun adZ=>(if (Int.tmod x8 2)=1 then (eP.l0 k x3 x4 x5 (wrap64 (x6+adZ)) adZ (wrap64 (x8+1))) else (eP.l0 k x3 x4 (wrap64 (x5+adZ)) x6 adZ (wrap64 (x8+1))))) else ((aQ.f k (wrap64 (x5 - x6)) x3).bind fun avg=>(some avg))
end
def eP.f (k:Nat) (a0:Int):Option (Int):=if a0 < 0 then (eP.j0 k 0) else (eP.j0 k a0)
theorem eP.calls (k:Nat) (a0 r:Int) (w:World) (h:eP.f k a0=some r) :
  Calls Tryz.prog 145 #[.int .i64 a0] w fun e w'=>e = .returned (.int .i64 r)/\Below w.heap.size w w':=by
 have HB:=aj.mk (Below.refl w.heap.size w);have H:=h;clear h;unfold eP.f at H;have HC2:=aj.mk H;clear H;go_enter Tryz.func145,Tryz.ntmps145;go_upto_if 10 with (fail)
 go_cut [0] (fun v0 wc=>∃ (kq:Nat) (aeR:Int),v0 = .int .i64 aeR/\aj (eP.j0 kq aeR=some r)/\aj (kq<=k)/\aj (Below w.heap.size w wc))
 case first =>
  have H:=HC2.out;clear HC2;by_cases c3:a0 < 0
  ·rw [if_pos c3] at H;have fU:=decide_eq_true c3;clear c3
   (first|rw [fU]|(simp only [bP,bU];rw [fU])|skip)
   have H':=aj.mk H;clear H;go_wp2;go_meet
   case rel=>exact ⟨_,(0),zT,H',⟨by first|omega|exact Nat.le_refl _⟩,⟨zB⟩⟩
  ·rw [if_neg c3] at H;have fU:=decide_eq_false c3;clear c3
   (first|rw [fU]|(simp only [bP,bU];rw [fU])|skip)
   have H':=aj.mk H;clear H;go_wp2;go_meet
   case rel=>exact ⟨_,(a0),zT,H',⟨by first|omega|exact Nat.le_refl _⟩,⟨zB⟩⟩
 case rest =>
  clear HC2;obtain ⟨kq,aeR,rfl,HA,HJ1,HB⟩:=hcut;cases kq with
  | zero=>exact absurd HA.out (by simp [eP.j0])
  | succ kj1 =>
   have H:=HA.out;clear HA;simp only [eP.j0] at H;replace H:=zO H;obtain ⟨ac3,A4,H⟩:=H;try dsimp only at H
   have H':=aj.mk H;clear H;go_wp2_with (first|((with_reducible refine ay (f:=144) rfl ?_);refine aH (some 12) rfl rfl Tryz.func144 (by kernel_rfl) rfl #[.int .i64 aeR,.int .i64 762123384786] rfl zL ?_;(with_reducible refine (fC.calls kj1 aeR 762123384786 ac3 _ A4.out).mono ?_);rintro e w5 ⟨rfl,hb⟩;refine ⟨_,rfl,?_⟩;replace HB:=aj.mk (ak zB hb);(try clear hb)));go_loopg [5,6,7,8] kj1 (fun kq v5 v6 v7 v8 w'=>∃ (ou:Int) (aau:Int) (acf:Int) (mY:Int),v5 = .int .i64 ou/\v6 = .int .i64 aau/\v7 = .int .i64 acf/\v8 = .int .i64 mY/\aj (eP.l0 kq ac3 (wrap64 (aeR - (wrap64 (ac3*762123384786)))) ou aau acf mY=some r)/\aj (kq<=kj1)/\aj (Below w.heap.size w w'))
   case atStart=>exact ⟨(1099511627776),(0),(1099511627776),(1),zT,zT,zT,zT,H',⟨Nat.le_refl _⟩,⟨zB⟩⟩
   case round =>
    clear H';obtain ⟨ou,aau,acf,mY,rfl,rfl,rfl,rfl,HA,HK2,HB⟩:=hrel;cases gk with
    | zero=>exact absurd HA.out (by simp [eP.l0])
    | succ k2 =>
     have H:=HA.out;clear HA;simp only [eP.l0] at H;by_cases c6:mY<=16
     ·rw [if_pos c6] at H;have gI:=decide_eq_true c6;clear c6;replace H:=zO H;obtain ⟨adZ,A7,H⟩:=H;try dsimp only at H
      by_cases c8:(Int.tmod mY 2)=1
      ·rw [if_pos c8] at H;have qj:((Int.tmod mY 2) == 1)=true:=beq_iff_eq.mpr c8;have abZ:((Int.tmod mY 2) != 1)=false:=bne_eq_false_iff_eq.mpr c8;clear c8;have H':=aj.mk H;clear H;go_wp2_with (first|((with_reducible refine ay (f:=118) rfl ?_);refine aH (some 25) rfl rfl Tryz.func118 (by kernel_rfl) rfl #[.int .i64 acf,.int .i64 (wrap64 (aeR - (wrap64 (ac3*762123384786)))),.int .i64 (wrap64 (mY*1099511627776))] rfl zL ?_;(with_reducible refine (bF.calls k2 acf (wrap64 (aeR - (wrap64 (ac3*762123384786)))) (wrap64 (mY*1099511627776)) adZ _ A7.out).mono ?_);rintro e w9 ⟨rfl,hb⟩;refine ⟨_,rfl,?_⟩;replace HB:=aj.mk (ak zB hb);(try clear hb)));go_roundg k2
       case measure=>have:=HJ1.out;have:=HK2.out;omega
       case rel=>exact ⟨(ou),(wrap64 (aau+adZ)),(adZ),(wrap64 (mY+1)),zT,zT,zT,zT,H',⟨by have:=HJ1.out;have:=HK2.out;omega⟩,⟨zB⟩⟩
      ·rw [if_neg c8] at H;have qj:((Int.tmod mY 2) == 1)=false:=beq_eq_false_iff_ne.mpr c8;have abZ:((Int.tmod mY 2) != 1)=true:=bne_iff_ne.mpr c8;have H':=aj.mk H;clear H;go_wp2_with (first|((with_reducible refine ay (f:=118) rfl ?_);refine aH (some 25) rfl rfl Tryz.func118 (by kernel_rfl) rfl #[.int .i64 acf,.int .i64 (wrap64 (aeR - (wrap64 (ac3*762123384786)))),.int .i64 (wrap64 (mY*1099511627776))] rfl zL ?_;(with_reducible refine (bF.calls k2 acf (wrap64 (aeR - (wrap64 (ac3*762123384786)))) (wrap64 (mY*1099511627776)) adZ _ A7.out).mono ?_);rintro e w10 ⟨rfl,hb⟩;refine ⟨_,rfl,?_⟩;replace HB:=aj.mk (ak zB hb);(try clear hb)));go_roundg k2
       case measure=>have:=HJ1.out;have:=HK2.out;omega
       case rel=>exact ⟨(wrap64 (ou+adZ)),(aau),(adZ),(wrap64 (mY+1)),zT,zT,zT,zT,H',⟨by have:=HJ1.out;have:=HK2.out;omega⟩,⟨zB⟩⟩
     ·rw [if_neg c6] at H;have gI:=decide_eq_false c6;clear c6;replace H:=zO H;obtain ⟨avg,A11,H⟩:=H;try dsimp only at H
      obtain rfl:=Option.some.inj H;go_wp2_with (first|((with_reducible refine ay (f:=101) rfl ?_);refine aH (some 39) rfl rfl Tryz.func101 (by kernel_rfl) rfl #[.int .i64 (wrap64 (ou - aau)),.int .i64 ac3] rfl zL ?_;(with_reducible refine (aQ.calls k2 (wrap64 (ou - aau)) ac3 avg _ A11.out).mono ?_);rintro e w12 ⟨rfl,hb⟩;refine ⟨_,rfl,?_⟩;replace HB:=aj.mk (ak zB hb);(try clear hb)));go_ret;exact ⟨zS,zB⟩
def oz.f (k:Nat) (a0 a1:Int):Option (Int):=if a1 < 1 then (some 9223372036854775807) else (if a1 > 4194304 then (some 9223372036854775807) else (if a0 < (-16384) then (some 9223372036854775807) else (if a0 > 16384 then (some 9223372036854775807) else ((bF.f k (wrap64 ((wrap64 (a0*a0))*2147483648)) 1099511627776 (wrap64 (a1*a1))).bind fun avh=>(some avh)))))
theorem oz.calls (k:Nat) (a0 a1 r:Int) (w:World) (h:oz.f k a0 a1=some r) :
  Calls Tryz.prog 146 #[.int .i64 a0,.int .i64 a1] w fun e w'=>e = .returned (.int .i64 r)/\Below w.heap.size w w':=by
 have HB:=aj.mk (Below.refl w.heap.size w);have H:=h;clear h;unfold oz.f at H;by_cases c3:a1 < 1
 ·rw [if_pos c3] at H;have fU:=decide_eq_true c3;clear c3;obtain rfl:=Option.some.inj H;go_enter Tryz.func146,Tryz.ntmps146;go_wp2;go_ret;exact ⟨zS,zB⟩
 ·rw [if_neg c3] at H;have fU:=decide_eq_false c3;clear c3;by_cases c4:a1 > 4194304
  ·rw [if_pos c4] at H;have fH:=decide_eq_true c4;clear c4;obtain rfl:=Option.some.inj H;go_enter Tryz.func146,Tryz.ntmps146;go_wp2;go_ret;exact ⟨zS,zB⟩
  ·rw [if_neg c4] at H;have fH:=decide_eq_false c4;clear c4;by_cases c5:a0 < (-16384)
   ·rw [if_pos c5] at H;have gJ:=decide_eq_true c5;clear c5;obtain rfl:=Option.some.inj H;go_enter Tryz.func146,Tryz.ntmps146;go_wp2;go_ret;exact ⟨zS,zB⟩
   ·rw [if_neg c5] at H;have gJ:=decide_eq_false c5;clear c5;by_cases c6:a0 > 16384
    ·rw [if_pos c6] at H;have gI:=decide_eq_true c6;clear c6;obtain rfl:=Option.some.inj H;go_enter Tryz.func146,Tryz.ntmps146;go_wp2;go_ret;exact ⟨zS,zB⟩
    ·rw [if_neg c6] at H;have gI:=decide_eq_false c6;clear c6;replace H:=zO H;obtain ⟨avh,A7,H⟩:=H;try dsimp only at H
     obtain rfl:=Option.some.inj H;go_enter Tryz.func146,Tryz.ntmps146;go_wp2_with (first|((with_reducible refine ay (f:=118) rfl ?_);refine aH (some 26) rfl rfl Tryz.func118 (by kernel_rfl) rfl #[.int .i64 (wrap64 ((wrap64 (a0*a0))*2147483648)),.int .i64 1099511627776,.int .i64 (wrap64 (a1*a1))] rfl zL ?_;(with_reducible refine (bF.calls k (wrap64 ((wrap64 (a0*a0))*2147483648)) 1099511627776 (wrap64 (a1*a1)) avh _ A7.out).mono ?_);rintro e w8 ⟨rfl,hb⟩;refine ⟨_,rfl,?_⟩;replace HB:=aj.mk (ak zB hb);(try clear hb)));go_ret;exact ⟨zS,zB⟩
def oC.f (k:Nat) (a0 a1:Int):Option (Int):=(oz.f k a0 a1).bind fun aoK=>((eP.f k aoK).bind fun aoL=>((aQ.f k aoL 10).bind fun avi=>(some avi)))
theorem oC.calls (k:Nat) (a0 a1 r:Int) (w:World) (h:oC.f k a0 a1=some r) :
  Calls Tryz.prog 116 #[.int .i64 a0,.int .i64 a1] w fun e w'=>e = .returned (.int .i64 r)/\Below w.heap.size w w':=by
 have HB:=aj.mk (Below.refl w.heap.size w);have H:=h;clear h;unfold oC.f at H;replace H:=zO H;obtain ⟨aoK,A3,H⟩:=H;try dsimp only at H
 replace H:=zO H;obtain ⟨aoL,A4,H⟩:=H;try dsimp only at H
 replace H:=zO H;obtain ⟨avi,A5,H⟩:=H;try dsimp only at H
 obtain rfl:=Option.some.inj H;go_enter Tryz.func116,Tryz.ntmps116;go_wp2_with (first|((with_reducible refine ay (f:=146) rfl ?_);refine aH (some 7) rfl rfl Tryz.func146 (by kernel_rfl) rfl #[.int .i64 a0,.int .i64 a1] rfl zL ?_;(with_reducible refine (oz.calls k a0 a1 aoK _ A3.out).mono ?_);rintro e w6 ⟨rfl,hb⟩;refine ⟨_,rfl,?_⟩;replace HB:=aj.mk (ak zB hb);(try clear hb))|((with_reducible refine ay (f:=145) rfl ?_);refine aH (some 8) rfl rfl Tryz.func145 (by kernel_rfl) rfl #[.int .i64 aoK] rfl zL ?_;(with_reducible refine (eP.calls k aoK aoL _ A4.out).mono ?_);rintro e w7 ⟨rfl,hb⟩;refine ⟨_,rfl,?_⟩;replace HB:=aj.mk (ak zB hb);(try clear hb))|((with_reducible refine ay (f:=101) rfl ?_);refine aH (some 9) rfl rfl Tryz.func101 (by kernel_rfl) rfl #[.int .i64 aoL,.int .i64 10] rfl zL ?_;(with_reducible refine (aQ.calls k aoL 10 avi _ A5.out).mono ?_);rintro e w8 ⟨rfl,hb⟩;refine ⟨_,rfl,?_⟩;replace HB:=aj.mk (ak zB hb);(try clear hb)));go_ret;exact ⟨zS,zB⟩
mutual
def bH.j0:Nat->Int->Bool->Option (List Int × Int)
 | 0,_,_=>none
 | k+1,x0,x12=>if x12=true then (some (([]:List Int),7)) else (bH.l0 k x0 0)
def bH.l0:Nat->Int->Int->Option (List Int × Int)
 | 0,_,_=>none
 | k+1,x0,x4=>if (wrap64 (x4*65536)) < (wrap64 (3*x0)) then (bH.l0 k x0 (wrap64 (x4+1))) else (bH.l1 k x0 x4 ([]:List Int) (wrap64 (-x4)))
def bH.l1:Nat->Int->Int->List Int->Int->Option (List Int × Int)
 | 0,_,_,_,_=>none
 | k+1,x0,x4,x5,x6=>if x6<=x4 then ((oC.f k x6 x0).bind fun alo=>(if x5.length < 17592186044416 then (bH.l1 k x0 x4 (x5 ++ [alo]) (wrap64 (x6+1))) else (none))) else (some (x5,0))
end
def bH.f (k:Nat) (a0:Int):Option (List Int × Int):=if a0 < 1 then (bH.j0 k a0 true) else (bH.j0 k a0 (decide (a0 > 4194304)))
theorem bH.calls (k:Nat) (a0:Int) (r1:List Int) (r2:Int) (w:World) (h:bH.f k a0=some (r1,r2)) :
  Calls Tryz.prog 94 #[.int .i64 a0] w fun e w'=>∃ v0_:Value,e = .returned (.tuple #[v0_,.int .i64 r2])/\Kd.R (Kd.int .i64) 2 w' w.heap.size (fun _=>True) v0_ r1/\Below w.heap.size w w':=by
 have HB:=aj.mk (Below.refl w.heap.size w);have H:=h;clear h;unfold bH.f at H;have HC2:=aj.mk H;clear H;go_enter Tryz.func94,Tryz.ntmps94;go_upto_region 1 with (fail);go_cut [12] (fun v12 wc=>∃ (kq:Nat) (ade:Bool),v12 = .bool ade/\aj (bH.j0 kq a0 ade=some (r1,r2))/\aj (kq<=k)/\aj (Below w.heap.size w wc))
 case first =>
  have H:=HC2.out;clear HC2;by_cases c3:a0 < 1
  ·rw [if_pos c3] at H;have fU:=decide_eq_true c3;clear c3
   (first|rw [fU]|(simp only [bP,bU];rw [fU])|skip)
   have H':=aj.mk H;clear H;go_wp2;go_meet
   case rel=>exact ⟨_,(true),zT,H',⟨by first|omega|exact Nat.le_refl _⟩,⟨zB⟩⟩
  ·rw [if_neg c3] at H;have fU:=decide_eq_false c3;clear c3
   (first|rw [fU]|(simp only [bP,bU];rw [fU])|skip)
   have H':=aj.mk H;clear H;go_wp2;go_meet
   case rel=>exact ⟨_,(decide (a0 > 4194304)),zT,H',⟨by first|omega|exact Nat.le_refl _⟩,⟨zB⟩⟩
 case rest =>
  clear HC2;obtain ⟨kq,ade,rfl,HA,HJ1,HB⟩:=hcut;cases kq with
  | zero=>exact absurd HA.out (by simp [bH.j0])
  | succ kj1 =>
   have H:=HA.out;clear HA;simp only [bH.j0] at H;by_cases c4:ade=true
   ·subst c4;rw [if_pos rfl] at H;(try dsimp only at H);simp only [Option.some.injEq,Prod.mk.injEq] at H;obtain ⟨rfl,rfl⟩:=H;go_wp2;go_ret2;exact ⟨_,zS,by first|exact Kd.kJ _ _ _ _ _|exact Kd.qO _ _ _ _ _|exact Kd.oU _ _ _ _ _|exact Kd.qP _ _ _ _ _|exact Kd.qp _ _ _ _ _,zB⟩
   ·replace c4:=Bool.eq_false_iff.mpr c4;subst c4;rw [if_neg (show ¬ (false=true) by decide)] at H;(try dsimp only at H);have H':=aj.mk H;clear H;go_wp2;go_loopg [4] kj1 (fun kq v4 w'=>∃ (yH:Int),v4 = .int .i64 yH/\aj (bH.l0 kq a0 yH=some (r1,r2))/\aj (kq<=kj1)/\aj (Below w.heap.size w w'))
    case atStart=>exact ⟨(0),zT,H',⟨Nat.le_refl _⟩,⟨zB⟩⟩
    case round =>
     clear H';obtain ⟨yH,rfl,HA,HK2,HB⟩:=hrel;cases gk with
     | zero=>exact absurd HA.out (by simp [bH.l0])
     | succ k2 =>
      have H:=HA.out;clear HA;simp only [bH.l0] at H;by_cases c5:(wrap64 (yH*65536)) < (wrap64 (3*a0))
      ·rw [if_pos c5] at H;have gJ:=decide_eq_true c5;clear c5;have H':=aj.mk H;clear H;go_wp2;go_roundg k2
       case measure=>have:=HJ1.out;have:=HK2.out;omega
       case rel=>exact ⟨(wrap64 (yH+1)),zT,H',⟨by have:=HJ1.out;have:=HK2.out;omega⟩,⟨zB⟩⟩
      ·rw [if_neg c5] at H;have gJ:=decide_eq_false c5;clear c5;have H':=aj.mk H;clear H;go_wp2;try simp only [Act.put,List.setIfInBounds_toArray,List.set_cons_succ,List.set_cons_zero]
       go_loopg [5,6] k2 (fun kq v5 v6 w'=>∃ (alp:List Int) (aho:Int),v6 = .int .i64 aho/\aj (bH.l1 kq a0 yH alp aho=some (r1,r2))/\aj (kq<=k2)/\aj (Kd.R (Kd.int .i64) 2 w' w.heap.size (fun _=>True) v5 alp)/\aj (Below w.heap.size w w'))
       case atStart=>exact ⟨(([]:List Int)),(wrap64 (-yH)),zT,H',⟨Nat.le_refl _⟩,⟨by first|exact Kd.kJ _ _ _ _ _|exact Kd.qO _ _ _ _ _|exact Kd.oU _ _ _ _ _|exact Kd.qP _ _ _ _ _|exact Kd.qp _ _ _ _ _⟩,⟨zB⟩⟩
       case round =>
        clear H';obtain ⟨alp,aho,rfl,HA,HK3,zF,HB⟩:=hrel;cases gk with
        | zero=>exact absurd HA.out (by simp [bH.l1])
        | succ k3 =>
         have H:=HA.out;clear HA;simp only [bH.l1] at H;by_cases c6:aho<=yH
         ·rw [if_pos c6] at H;have gI:=decide_eq_true c6;clear c6;replace H:=zO H;obtain ⟨alo,A7,H⟩:=H;try dsimp only at H
          by_cases c8:alp.length < 17592186044416
          ·rw [if_pos c8] at H;have aDs:=aj.mk c8;clear c8;obtain ⟨azx,akh⟩:∃ y_:List Int,y_=(alp ++ [alo]):=⟨_,rfl⟩;replace H:(bH.l1 k3 a0 yH azx (wrap64 (aho+1)))=some (r1,r2):=(by first|(rw [akh];with_reducible exact H)|(have H2_:=(Option.bind_some _ _).symm.trans H;rw [akh];with_reducible exact H2_)|(have H2_:=(Option.bind_some _ _).symm.trans H;with_reducible exact H2_)|with_reducible exact H|(rw [akh];exact H)|exact H);have aBY:=aj.mk akh;clear akh;have H':=aj.mk H;clear H;go_wp2_with (first|((with_reducible refine ay (f:=116) rfl ?_);refine aH (some 30) rfl rfl Tryz.func116 (by kernel_rfl) rfl #[.int .i64 aho,.int .i64 a0] rfl zL ?_;(with_reducible refine (oC.calls k3 aho a0 alo _ A7.out).mono ?_);rintro e w9 ⟨rfl,hb⟩;refine ⟨_,rfl,?_⟩;obtain ⟨zF,HB⟩:=zA2 (Kd.jF (by (with_reducible repeat (first|apply Kd.aN|apply Kd.aT|apply Kd.aV));exact zF.out) hb) (ak zB hb);(try clear hb))|((with_reducible refine kR (b := .append) (xs := #[.tmp 27,.tmp 31]) rfl ?_);at_builtin;refine Kd.lU (Kd.int .i64) (w0:=w) w.heap.size rfl (.tmp 27) (.tmp 31) 44 2 (.int .i64 0) 8 rfl Tryz.underlying44 yM rfl (by decide) (by omega) u5 alp alo [.int .i64 alo] (fun _=>True) (fun _=>False) rfl rfl ?aP (fun _ hk=>hk.elim) ?aF ?aO ?aB ?aS ?aL ?_;(case aP=>exact rfl);(case aB=>exact zB);(case aF=>exact (fun _ _=>trivial));(case aO=>exact (by (with_reducible repeat (first|apply Kd.aN|apply Kd.aT|apply Kd.aV));exact zF.out));(case aS=>exact (bW zB));(case aL=>have:=aDs.out;omega);intro aI0 w10 ho hb hg hat;rw [<- aBY.out] at ho;obtain ⟨HB,aBZ⟩:=zA2 hb ho;clear ho hb hg hat));go_roundg k3
           case measure=>have:=HJ1.out;have:=HK2.out;have:=HK3.out;omega
           case rel=>exact ⟨(azx),(wrap64 (aho+1)),zT,H',⟨by have:=HJ1.out;have:=HK2.out;have:=HK3.out;omega⟩,⟨by (with_reducible repeat (first|apply Kd.aN|apply Kd.aT|apply Kd.aV));exact aBZ.out⟩,⟨zB⟩⟩
          ·rw [if_neg c8] at H;exact absurd H (by simp)
         ·rw [if_neg c6] at H;have gI:=decide_eq_false c6;clear c6;simp only [Option.some.injEq,Prod.mk.injEq] at H;obtain ⟨rfl,rfl⟩:=H;go_wp2;go_ret2;exact ⟨_,zS,by (with_reducible repeat (first|apply Kd.aN|apply Kd.aT|apply Kd.aV));exact zF.out,zB⟩
def iW.l0:Nat->Int->List Int->Int->Int->Option (Int)
 | 0,_,_,_,_=>none
 | k+1,x3,x6,x7,x8=>if x8 < x7 then (if 0<=x8 then (if x8 < (x6.length:Int) then ((jo.f (rd x6 x8)).bind fun aoM=>((iM.f k x3 aoM).bind fun arZ=>(iW.l0 k arZ x6 x7 (wrap64 (x8+1))))) else (none)) else (none)) else (some x3)
def iW.f (k:Nat) (l0:List Int):Option (Int):=iW.l0 k 0 l0 (l0.length:Int) 0
theorem iW.calls (k:Nat) (A0:Option Addr) (c0:Nat) (l0:List Int) (r:Int) (w:World) (hr0:Kd.C (Kd.int .i64) w A0 l0.length l0) (hc0:l0.length<=c0) (h:iW.f k l0=some r) :
  Calls Tryz.prog 117 #[.slice A0 l0.length c0] w fun e w'=>e = .returned (.int .i64 r)/\dA w w':=by
 have HR0:=aj.mk hr0;have HC0:=aj.mk hc0;clear hr0 hc0;have H:=h;clear h;unfold iW.f at H;have H':=aj.mk H;clear H;go_enter Tryz.func117,Tryz.ntmps117;go_wp2;go_loopg [3,8] k (fun kq v3 v8 w'=>∃ (qm:Int) (iT:Int),v3 = .int .i64 qm/\v8 = .int .i64 iT/\aj (iW.l0 kq qm l0 (l0.length:Int) iT=some r)/\aj (kq<=k)/\dA w w')
 case atStart=>exact ⟨(0),(0),zT,zT,H',⟨Nat.le_refl _⟩,zW⟩
 case round =>
  clear H';obtain ⟨qm,iT,rfl,rfl,HA,HK1,⟨m1,rfl⟩⟩:=hrel;cases gk with
  | zero=>exact absurd HA.out (by simp [iW.l0])
  | succ k1 =>
   have H:=HA.out;clear HA;simp only [iW.l0] at H;by_cases c2:iT < (l0.length:Int)
   ·rw [if_pos c2] at H;have oM:=decide_eq_true c2;clear c2;by_cases c3:0<=iT
    ·rw [if_pos c3] at H;have fU:=decide_eq_true c3;clear c3;by_cases c4:iT < (l0.length:Int)
     ·rw [if_pos c4] at H;have fH:=decide_eq_true c4;clear c4;replace H:=zO H;obtain ⟨aoM,A5,H⟩:=H;try dsimp only at H
      replace H:=zO H;obtain ⟨arZ,A6,H⟩:=H;try dsimp only at H
      have H':=aj.mk H;clear H;have avj:0<=(iT:Int):=of_decide_eq_true (by first|(with_reducible assumption)|assumption);have avk:iT < (l0.length:Int):=of_decide_eq_true (by first|(with_reducible assumption)|assumption);obtain ⟨aHV,aDt,aFo⟩:=Kd.iZ HR0.out iT avj avk;cases aDt;replace avj:=eq_true avj;replace avk:=eq_true avk;go_wp2_with (first|((with_reducible refine ay (f:=142) rfl ?_);refine aH (some 14) rfl rfl Tryz.func142 (by kernel_rfl) rfl #[.int .i64 (rd l0 iT)] rfl zL ?_;(with_reducible refine (jo.calls (rd l0 iT) aoM _ A5.out).mono ?_);rintro e w' ⟨rfl,⟨nd,rfl⟩⟩;refine ⟨_,rfl,?_⟩)|((with_reducible refine ay (f:=147) rfl ?_);refine aH (some 15) rfl rfl Tryz.func147 (by kernel_rfl) rfl #[.int .i64 qm,.int .i64 aoM] rfl zL ?_;(with_reducible refine (iM.calls k1 qm aoM arZ _ A6.out).mono ?_);rintro e w' ⟨rfl,⟨nd,rfl⟩⟩;refine ⟨_,rfl,?_⟩));go_roundg k1
      case measure=>have:=HK1.out;omega
      case rel=>exact ⟨(arZ),(wrap64 (iT+1)),zT,zT,H',⟨by have:=HK1.out;omega⟩,zW⟩
     ·rw [if_neg c4] at H;exact absurd H (by simp)
    ·rw [if_neg c3] at H;exact absurd H (by simp)
   ·rw [if_neg c2] at H;have oM:=decide_eq_false c2;clear c2;obtain rfl:=Option.some.inj H;go_wp2;go_ret;exact ⟨zT,zW⟩
mutual
def bV.j0:Nat->List Int->Int->Bool->Option (List Int × Int)
 | 0,_,_,_=>none
 | k+1,x0,x4,x26=>if x26=true then (some (([]:List Int),7)) else (bV.l0 k x4 ([]:List Int) x0 (x0.length:Int) 0)
def bV.l0:Nat->Int->List Int->List Int->Int->Int->Option (List Int × Int)
 | 0,_,_,_,_,_=>none
 | k+1,x4,x5,x27,x28,x29=>if x29 < x28 then (if 0<=x29 then (if x29 < (x27.length:Int) then ((bF.f k (rd x27 x29) 1073741824 x4).bind fun alq=>(if x5.length < 17592186044416 then (bV.l0 k x4 (x5 ++ [alq]) x27 x28 (wrap64 (x29+1))) else (none))) else (none)) else (none)) else (some (x5,0))
end
def bV.f (k:Nat) (l0:List Int):Option (List Int × Int):=(iW.f k l0).bind fun xY=>(if ((l0.length:Int) % 2)=0 then (bV.j0 k l0 xY true) else (if (l0.length:Int) > 1024 then (bV.j0 k l0 xY true) else (if xY=0 then (bV.j0 k l0 xY true) else (bV.j0 k l0 xY (decide (xY > 1048576))))))
theorem bV.calls (k:Nat) (A0:Option Addr) (c0:Nat) (l0 r1:List Int) (r2:Int) (w:World) (hr0:Kd.C (Kd.int .i64) w A0 l0.length l0) (hc0:l0.length<=c0) (h:bV.f k l0=some (r1,r2)) :
  Calls Tryz.prog 96 #[.slice A0 l0.length c0] w fun e w'=>∃ v0_:Value,e = .returned (.tuple #[v0_,.int .i64 r2])/\Kd.R (Kd.int .i64) 2 w' w.heap.size (fun _=>True) v0_ r1/\Below w.heap.size w w':=by
 have HR0:=aj.mk hr0;have HC0:=aj.mk hc0;clear hr0 hc0;have HB:=aj.mk (Below.refl w.heap.size w);have H:=h;clear h;unfold bV.f at H;replace H:=zO H;obtain ⟨xY,A2,H⟩:=H;try dsimp only at H
 have HC3:=aj.mk H;clear H;go_enter Tryz.func96,Tryz.ntmps96;go_upto_region 2 with (first|((with_reducible refine ay (f:=117) rfl ?_);refine aH (some 9) rfl rfl Tryz.func117 (by kernel_rfl) rfl #[.slice A0 l0.length c0] rfl zL ?_;(with_reducible refine (iW.calls k _ _ l0 xY _ ?iD ?iE A2.out).mono ?_);(case iD=>repeat (first|exact HR0.out|(with_reducible refine Kd.iU ?_ _)|(with_reducible refine Kd.jh ?_ _)|(with_reducible refine Kd.jI ?_)));(case iE=>exact HC0.out);rintro e w' ⟨rfl,⟨nd,rfl⟩⟩;refine ⟨_,rfl,?_⟩))
 (try simp only [Act.put,List.setIfInBounds_toArray,List.set_cons_zero,List.set_cons_succ])
 go_cut [26] (fun v26 wc=>∃ (kq:Nat) (adf:Bool),v26 = .bool adf/\aj (bV.j0 kq l0 xY adf=some (r1,r2))/\aj (kq<=k)/\aj (Below w.heap.size w wc))
 case first =>
  have H:=HC3.out;clear HC3;by_cases c4:((l0.length:Int) % 2)=0
  ·rw [if_pos c4] at H;have fH:(((l0.length:Int) % 2) == 0)=true:=beq_iff_eq.mpr c4;have aaS:(((l0.length:Int) % 2) != 0)=false:=bne_eq_false_iff_eq.mpr c4;clear c4
   (first|rw [fH]|(simp only [bP,bU];rw [fH])|skip)
   have H':=aj.mk H;clear H;go_wp2;go_meet
   case rel=>exact ⟨_,(true),zT,H',⟨by first|omega|exact Nat.le_refl _⟩,⟨zB⟩⟩
  ·rw [if_neg c4] at H;have fH:(((l0.length:Int) % 2) == 0)=false:=beq_eq_false_iff_ne.mpr c4;have aaS:(((l0.length:Int) % 2) != 0)=true:=bne_iff_ne.mpr c4
   (first|rw [fH]|(simp only [bP,bU];rw [fH])|skip)
   by_cases c5:(l0.length:Int) > 1024
   ·rw [if_pos c5] at H;have gJ:=decide_eq_true c5;have ab8:decide (1024 < l0.length)=true:=decide_eq_true (by omega);clear c5;have H':=aj.mk H;clear H;go_wp2;go_meet
    case rel=>exact ⟨_,(true),zT,H',⟨by first|omega|exact Nat.le_refl _⟩,⟨zB⟩⟩
   ·rw [if_neg c5] at H;have gJ:=decide_eq_false c5;have ab8:decide (1024 < l0.length)=false:=decide_eq_false (by omega);clear c5;by_cases c6:xY=0
    ·rw [if_pos c6] at H;have gI:(xY == 0)=true:=beq_iff_eq.mpr c6;have vU:(xY != 0)=false:=bne_eq_false_iff_eq.mpr c6;clear c6;have H':=aj.mk H;clear H;go_wp2;go_meet
     case rel=>exact ⟨_,(true),zT,H',⟨by first|omega|exact Nat.le_refl _⟩,⟨zB⟩⟩
    ·rw [if_neg c6] at H;have gI:(xY == 0)=false:=beq_eq_false_iff_ne.mpr c6;have vU:(xY != 0)=true:=bne_iff_ne.mpr c6;have H':=aj.mk H;clear H;go_wp2;go_meet
     case rel=>exact ⟨_,(decide (xY > 1048576)),zT,H',⟨by first|omega|exact Nat.le_refl _⟩,⟨zB⟩⟩
 case rest =>
  clear HC3;obtain ⟨kq,adf,rfl,HA,HJ2,HB⟩:=hcut;cases kq with
  | zero=>exact absurd HA.out (by simp [bV.j0])
  | succ kj2 =>
   have H:=HA.out;clear HA;simp only [bV.j0] at H;by_cases c7:adf=true
   ·subst c7;rw [if_pos rfl] at H;(try dsimp only at H);simp only [Option.some.injEq,Prod.mk.injEq] at H;obtain ⟨rfl,rfl⟩:=H;go_wp2;go_ret2;exact ⟨_,zS,by first|exact Kd.kJ _ _ _ _ _|exact Kd.qO _ _ _ _ _|exact Kd.oU _ _ _ _ _|exact Kd.qP _ _ _ _ _|exact Kd.qp _ _ _ _ _,zB⟩
   ·replace c7:=Bool.eq_false_iff.mpr c7;subst c7;rw [if_neg (show ¬ (false=true) by decide)] at H;(try dsimp only at H);have H':=aj.mk H;clear H;go_wp2;go_loopg [5,29] kj2 (fun kq v5 v29 w'=>∃ (ou:List Int) (jS:Int),v29 = .int .i64 jS/\aj (bV.l0 kq xY ou l0 (l0.length:Int) jS=some (r1,r2))/\aj (kq<=kj2)/\aj (Kd.R (Kd.int .i64) 2 w' w.heap.size (fun _=>True) v5 ou)/\aj (Below w.heap.size w w'))
    case atStart=>exact ⟨(([]:List Int)),(0),zT,H',⟨Nat.le_refl _⟩,⟨by first|exact Kd.kJ _ _ _ _ _|exact Kd.qO _ _ _ _ _|exact Kd.oU _ _ _ _ _|exact Kd.qP _ _ _ _ _|exact Kd.qp _ _ _ _ _⟩,⟨zB⟩⟩
    case round =>
     clear H';obtain ⟨ou,jS,rfl,HA,HK2,zF,HB⟩:=hrel;cases gk with
     | zero=>exact absurd HA.out (by simp [bV.l0])
     | succ k2 =>
      have H:=HA.out;clear HA;simp only [bV.l0] at H;by_cases c8:jS < (l0.length:Int)
      ·rw [if_pos c8] at H;have qj:=decide_eq_true c8;clear c8;by_cases c9:0<=jS
       ·rw [if_pos c9] at H;have o8:=decide_eq_true c9;clear c9;by_cases c10:jS < (l0.length:Int)
        ·rw [if_pos c10] at H;have l9:=decide_eq_true c10;clear c10;replace H:=zO H;obtain ⟨alq,A11,H⟩:=H;try dsimp only at H
         by_cases c12:ou.length < 17592186044416
         ·rw [if_pos c12] at H;have aB0:=aj.mk c12;clear c12;obtain ⟨azy,aki⟩:∃ y_:List Int,y_=(ou ++ [alq]):=⟨_,rfl⟩;replace H:(bV.l0 k2 xY azy l0 (l0.length:Int) (wrap64 (jS+1)))=some (r1,r2):=(by first|(rw [aki];with_reducible exact H)|(have H2_:=(Option.bind_some _ _).symm.trans H;rw [aki];with_reducible exact H2_)|(have H2_:=(Option.bind_some _ _).symm.trans H;with_reducible exact H2_)|with_reducible exact H|(rw [aki];exact H)|exact H);have aB1:=aj.mk aki;clear aki;have H':=aj.mk H;clear H;have avl:0<=(jS:Int):=of_decide_eq_true (by first|(with_reducible assumption)|assumption);have avm:jS < (l0.length:Int):=of_decide_eq_true (by first|(with_reducible assumption)|assumption);obtain ⟨aHW,aDu,alr⟩:=Kd.iZ HR0.out jS avl avm;cases aDu;replace alr:=(HB.out.cell (World.block_lt_of_cell? w _ alr)).trans alr;replace avl:=eq_true avl;replace avm:=eq_true avm;go_wp2_with (first|((with_reducible refine ay (f:=118) rfl ?_);refine aH (some 36) rfl rfl Tryz.func118 (by kernel_rfl) rfl #[.int .i64 (rd l0 jS),.int .i64 1073741824,.int .i64 xY] rfl zL ?_;(with_reducible refine (bF.calls k2 (rd l0 jS) 1073741824 xY alq _ A11.out).mono ?_);rintro e w13 ⟨rfl,hb⟩;refine ⟨_,rfl,?_⟩;obtain ⟨zF,HB⟩:=zA2 (Kd.jF (by (with_reducible repeat (first|apply Kd.aN|apply Kd.aT|apply Kd.aV));exact zF.out) hb) (ak zB hb);(try clear hb))|((with_reducible refine kR (b := .append) (xs := #[.tmp 33,.tmp 37]) rfl ?_);(try (refine lV (by rfl) ?_;dsimp only));at_builtin;refine Kd.lU (Kd.int .i64) (w0:=w) w.heap.size rfl (.tmp 33) (.tmp 37) 44 2 (.int .i64 0) 8 rfl Tryz.underlying44 yM rfl (by decide) (by omega) u5 ou alq [.int .i64 alq] (fun _=>True) (fun _=>False) rfl rfl ?aP (fun _ hk=>hk.elim) ?aF ?aO ?aB ?aS ?aL ?_;(case aP=>exact rfl);(case aB=>exact zB);(case aF=>exact (fun _ _=>trivial));(case aO=>exact (by (with_reducible repeat (first|apply Kd.aN|apply Kd.aT|apply Kd.aV));exact zF.out));(case aS=>exact (bW zB));(case aL=>have:=aB0.out;omega);intro aI1 w14 ho hb hg hat;rw [<- aB1.out] at ho;obtain ⟨HB,aB2⟩:=zA2 hb ho;clear ho hb hg hat));go_roundg k2
          case measure=>have:=HJ2.out;have:=HK2.out;omega
          case rel=>exact ⟨(azy),(wrap64 (jS+1)),zT,H',⟨by have:=HJ2.out;have:=HK2.out;omega⟩,⟨by (with_reducible repeat (first|apply Kd.aN|apply Kd.aT|apply Kd.aV));exact aB2.out⟩,⟨zB⟩⟩
         ·rw [if_neg c12] at H;exact absurd H (by simp)
        ·rw [if_neg c10] at H;exact absurd H (by simp)
       ·rw [if_neg c9] at H;exact absurd H (by simp)
      ·rw [if_neg c8] at H;have qj:=decide_eq_false c8;clear c8;simp only [Option.some.injEq,Prod.mk.injEq] at H;obtain ⟨rfl,rfl⟩:=H;go_wp2;go_ret2;exact ⟨_,zS,by (with_reducible repeat (first|apply Kd.aN|apply Kd.aT|apply Kd.aV));exact zF.out,zB⟩
end Go.Proofs.YtpondkggmcmpfaaGreatDoor.QA
