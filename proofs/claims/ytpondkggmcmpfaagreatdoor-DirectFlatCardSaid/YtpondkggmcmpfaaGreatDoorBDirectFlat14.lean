/- Joined by wip/tools/bundle.py out of: QAx35 QAx36 QAx37 QAx38 QAx39 QAx40. -/
import Derived.Test.YtpondkggmcmpfaaGreatDoorBDirectFlat13
import Derived.Test.YtpondkggmcmpfaaGreatDoorBDirectFlat3
set_option maxHeartbeats 8000000
set_option maxRecDepth 100000
namespace Go.Proofs.YtpondkggmcmpfaaGreatDoor.QA
open Go.Proofs.YtpondkggmcmpfaaGreatDoor.T
open Go.RowKit Go.Proofs.YtpondkggmcmpfaaGreatDoorW.PrintWords Go.Proofs.YtpondkggmcmpfaaGreatDoorW.PrintLast Go.Proofs.YtpondkggmcmpfaaGreatDoorW.PrintMore
attribute [local go_sem] dV dN dO eP fA
set_option linter.unusedVariables false
set_option linter.unusedSimpArgs false
def dZ.j0:Nat->Bool->Bool->Int->Int->Option (Int)
 | 0,_,_,_,_=>none
 | k+1,x7,x28,ani,anj=>if x28=true then ((gY.f ani anj 0 1).bind fun atr=>((bY.f k atr.1 atr.2 x7).bind fun alE=>(some alE))) else ((bY.f k ani anj x7).bind fun alF=>(some alF))
def dZ.f (k:Nat) (a0 a1:Int):Option (Int):=if a1=0 then (some 0) else ((dP.f a0).bind fun afz=>((dP.f a1).bind fun afA=>((fH.f k 0 afz afA).bind fun ahT=>(if ((decide (a0 < 0)) != (decide (a1 < 0)))=true then (dZ.j0 k ((decide (a0 < 0)) != (decide (a1 < 0))) (decide (ahT.2.2 > 0)) ahT.1 ahT.2.1) else (dZ.j0 k ((decide (a0 < 0)) != (decide (a1 < 0))) false ahT.1 ahT.2.1)))))
theorem dZ.calls (k:Nat) (a0 a1 r:Int) (w:World) (h:dZ.f k a0 a1=some r) :
  Calls Tryz.prog 144 #[.int .i64 a0,.int .i64 a1] w fun e w'=>e = .returned (.int .i64 r)/\Below w.heap.size w w':=by
 have yJ:=Tryz.underlying179;have HB:=aj.mk (Below.refl w.heap.size w);have H:=h;clear h;unfold dZ.f at H;by_cases c3:a1=0
 ·rw [if_pos c3] at H;have gI:(a1 == 0)=true:=beq_iff_eq.mpr c3;have xZ:(a1 != 0)=false:=bne_eq_false_iff_eq.mpr c3;clear c3;obtain rfl:=Option.some.inj H;go_enter Tryz.func144,Tryz.ntmps144;go_wp2;go_ret;exact ⟨zS,zB⟩
 ·rw [if_neg c3] at H;have gI:(a1 == 0)=false:=beq_eq_false_iff_ne.mpr c3;have xZ:(a1 != 0)=true:=bne_iff_ne.mpr c3;replace H:=zO H;obtain ⟨afz,A4,H⟩:=H;try dsimp only at H
  replace H:=zO H;obtain ⟨afA,A5,H⟩:=H;try dsimp only at H
  replace H:=zO H;obtain ⟨⟨wK,wL,arl⟩,A6,H⟩:=H;try dsimp only at H
  rcases Bool.eq_false_or_eq_true ((decide (a0 < 0)) != (decide (a1 < 0))) with hsv|hsv
  ·have uh:((decide (a0 < 0)) != (decide (a1 < 0)))=true:=hsv;have aos:((decide (a0 < 0)) == (decide (a1 < 0)))=false:=(by simpa using hsv);have HC7:=aj.mk H;clear H;go_enter Tryz.func144,Tryz.ntmps144;go_upto_region 5 with (first|((with_reducible refine ay (f:=120) rfl ?_);refine aH (some 12) rfl rfl Tryz.func120 (by kernel_rfl) rfl #[.int .i64 a0] rfl zL ?_;(with_reducible refine (dP.calls a0 afz _ A4.out).mono ?_);rintro e w' ⟨rfl,⟨nd,rfl⟩⟩;refine ⟨_,rfl,?_⟩)|((with_reducible refine ay (f:=120) rfl ?_);refine aH (some 15) rfl rfl Tryz.func120 (by kernel_rfl) rfl #[.int .i64 a1] rfl zL ?_;(with_reducible refine (dP.calls a1 afA _ A5.out).mono ?_);rintro e w' ⟨rfl,⟨nd,rfl⟩⟩;refine ⟨_,rfl,?_⟩)|((with_reducible refine ay (f:=172) rfl ?_);refine aH (some 16) rfl rfl Tryz.func172 (by kernel_rfl) rfl #[.agg #[.int .u64 0,.int .u64 afz],.int .u64 afA] rfl zL ?_;(with_reducible refine (fH.calls k 0 afz afA wK wL arl _ A6.out).mono ?_);rintro e w8 ⟨rfl,hb⟩;refine ⟨_,rfl,?_⟩;replace HB:=aj.mk (ak zB hb);(try clear hb))|((with_reducible refine bG (N:=5) rfl ?_);refine bI zR (N:=5) zR (cs := #[.int .u64 0,.int .u64 0]) (t:=179) zG ?_;intro ahU hg w9 hbox hb;obtain ⟨HB,kK,ax1,ax2⟩:=zA4 (ak zB hb) hbox (zg hg zB) (zg hg zB);clear hb hbox hg;obtain ⟨_,_⟩:=zC2 kK.out;obtain ⟨_,_⟩:=zF2 kK.out))
   (try simp only [Act.put,List.setIfInBounds_toArray,List.set_cons_zero,List.set_cons_succ])
   go_cut [28] (fun v28 wc=>∃ (kq:Nat) (abM:Bool),v28 = .bool abM/\aj (dZ.j0 kq ((decide (a0 < 0)) != (decide (a1 < 0))) abM wK wL=some r)/\aj (kq<=k)/\aj (wc.heap[ahU]? = some (.cells #[.int .u64 wK,.int .u64 wL] 179 (0,0)))/\aj (Below w.heap.size w wc))
   case first =>
    have H:=HC7.out;clear HC7;by_cases c11:((decide (a0 < 0)) != (decide (a1 < 0)))=true
    ·rw [if_pos c11] at H;have iV:((decide (a0 < 0)) != (decide (a1 < 0)))=true:=c11
     (try (have xM:decide ((decide (a0 < 0))=(decide (a1 < 0)))=false:=by simpa using c11))
     (try (have aot:((decide (a0 < 0)) == (decide (a1 < 0)))=false:=by simpa using c11))
     (try (have ax3:¬ ((decide (a0 < 0))=(decide (a1 < 0))):=by simpa using c11))
     clear c11
     (first|rw [iV]|(simp only [cZ,dD];rw [iV])|skip)
     have H':=aj.mk H;clear H;go_wp2;go_meet
     case rel=>exact ⟨_,(decide (arl > 0)),zT,H',⟨by first|omega|exact Nat.le_refl _⟩,⟨by refine zD ?_;refine aY (cs := #[.int .u64 wK,.int .u64 0]) ?_ 1 _ rfl;refine zD ?_;refine aY (cs := #[.int .u64 0,.int .u64 0]) ?_ 0 _ rfl;refine zD ?_;exact kK.out⟩,⟨zB⟩⟩
    ·rw [if_neg c11] at H;have iV:((decide (a0 < 0)) != (decide (a1 < 0)))=false:=(by simpa using c11);exact absurd (uh.symm.trans iV) (by decide)
   case rest =>
    clear HC7;obtain ⟨kq,abM,rfl,HA,HJ6,kK,HB⟩:=hcut;cases kq with
    | zero=>exact absurd HA.out (by simp [dZ.j0])
    | succ kj6 =>
     have H:=HA.out;clear HA;simp only [dZ.j0] at H;by_cases c12:abM=true
     ·subst c12;rw [if_pos rfl] at H;(try dsimp only at H);replace H:=zO H;obtain ⟨⟨acp,ad4⟩,A13,H⟩:=H;try dsimp only at H
      replace H:=zO H;obtain ⟨alE,A14,H⟩:=H;try dsimp only at H
      obtain rfl:=Option.some.inj H;obtain ⟨_,_⟩:=zC2 kK.out;obtain ⟨_,_⟩:=zF2 kK.out;go_wp2_with (first|((with_reducible refine ay (f:=124) rfl ?_);refine aH (some 31) rfl rfl Tryz.func124 (by kernel_rfl) rfl #[.agg #[.int .u64 wK,.int .u64 wL],.agg #[.int .u64 0,.int .u64 1]] rfl zL ?_;(with_reducible refine (gY.calls wK wL 0 1 acp ad4 _ A13.out).mono ?_);rintro e w16 ⟨rfl,hb⟩;refine ⟨_,rfl,?_⟩;obtain ⟨kK,HB⟩:=zA2 (aA (zK kK) hb) (ak zB hb);(try clear hb);obtain ⟨_,_⟩:=zC2 kK.out;obtain ⟨_,_⟩:=zF2 kK.out)|((with_reducible refine ay (f:=125) rfl ?_);refine aH (some 34) rfl rfl Tryz.func125 (by kernel_rfl) rfl #[.agg #[.int .u64 acp,.int .u64 ad4],.bool true] rfl zL ?_;(with_reducible refine (bY.calls kj6 acp ad4 true alE _ (by have h:=A14.out;rw [uh] at h;exact h)).mono ?_);rintro e w18 ⟨rfl,hb⟩;refine ⟨_,rfl,?_⟩;obtain ⟨kK,HB⟩:=zA2 (aA (g:=ahU) (o := .cells #[.int .u64 acp,.int .u64 ad4] 179 (0,0)) (by refine zD ?_;refine aY (cs := #[.int .u64 acp,.int .u64 wL]) ?_ 1 _ rfl;refine zD ?_;refine aY (cs := #[.int .u64 wK,.int .u64 wL]) ?_ 0 _ rfl;refine zD ?_;exact kK.out) hb) (ak zB hb);(try clear hb)));go_ret;exact ⟨zS,zB⟩
     ·replace c12:=Bool.eq_false_iff.mpr c12;subst c12;rw [if_neg (show ¬ (false=true) by decide)] at H;(try dsimp only at H);replace H:=zO H;obtain ⟨alF,A19,H⟩:=H;try dsimp only at H
      obtain rfl:=Option.some.inj H;obtain ⟨_,_⟩:=zC2 kK.out;obtain ⟨_,_⟩:=zF2 kK.out;go_wp2_with (first|((with_reducible refine ay (f:=125) rfl ?_);refine aH (some 34) rfl rfl Tryz.func125 (by kernel_rfl) rfl #[.agg #[.int .u64 wK,.int .u64 wL],.bool true] rfl zL ?_;(with_reducible refine (bY.calls kj6 wK wL true alF _ (by have h:=A19.out;rw [uh] at h;exact h)).mono ?_);rintro e w21 ⟨rfl,hb⟩;refine ⟨_,rfl,?_⟩;obtain ⟨kK,HB⟩:=zA2 (aA (zK kK) hb) (ak zB hb);(try clear hb)));go_ret;exact ⟨zS,zB⟩
  ·have uh:((decide (a0 < 0)) != (decide (a1 < 0)))=false:=hsv;have aos:((decide (a0 < 0)) == (decide (a1 < 0)))=true:=(by simpa using hsv);have HC7:=aj.mk H;clear H;go_enter Tryz.func144,Tryz.ntmps144;go_upto_region 5 with (first|((with_reducible refine ay (f:=120) rfl ?_);refine aH (some 12) rfl rfl Tryz.func120 (by kernel_rfl) rfl #[.int .i64 a0] rfl zL ?_;(with_reducible refine (dP.calls a0 afz _ A4.out).mono ?_);rintro e w' ⟨rfl,⟨nd,rfl⟩⟩;refine ⟨_,rfl,?_⟩)|((with_reducible refine ay (f:=120) rfl ?_);refine aH (some 15) rfl rfl Tryz.func120 (by kernel_rfl) rfl #[.int .i64 a1] rfl zL ?_;(with_reducible refine (dP.calls a1 afA _ A5.out).mono ?_);rintro e w' ⟨rfl,⟨nd,rfl⟩⟩;refine ⟨_,rfl,?_⟩)|((with_reducible refine ay (f:=172) rfl ?_);refine aH (some 16) rfl rfl Tryz.func172 (by kernel_rfl) rfl #[.agg #[.int .u64 0,.int .u64 afz],.int .u64 afA] rfl zL ?_;(with_reducible refine (fH.calls k 0 afz afA wK wL arl _ A6.out).mono ?_);rintro e w8 ⟨rfl,hb⟩;refine ⟨_,rfl,?_⟩;replace HB:=aj.mk (ak zB hb);(try clear hb))|((with_reducible refine bG (N:=5) rfl ?_);refine bI zR (N:=5) zR (cs := #[.int .u64 0,.int .u64 0]) (t:=179) zG ?_;intro ahU hg w9 hbox hb;obtain ⟨HB,kK,ax1,ax2⟩:=zA4 (ak zB hb) hbox (zg hg zB) (zg hg zB);clear hb hbox hg;obtain ⟨_,_⟩:=zC2 kK.out;obtain ⟨_,_⟩:=zF2 kK.out))
   (try simp only [Act.put,List.setIfInBounds_toArray,List.set_cons_zero,List.set_cons_succ])
   go_cut [28] (fun v28 wc=>∃ (kq:Nat) (abM:Bool),v28 = .bool abM/\aj (dZ.j0 kq ((decide (a0 < 0)) != (decide (a1 < 0))) abM wK wL=some r)/\aj (kq<=k)/\aj (wc.heap[ahU]? = some (.cells #[.int .u64 wK,.int .u64 wL] 179 (0,0)))/\aj (Below w.heap.size w wc))
   case first =>
    have H:=HC7.out;clear HC7;by_cases c11:((decide (a0 < 0)) != (decide (a1 < 0)))=true
    ·rw [if_pos c11] at H;have iV:((decide (a0 < 0)) != (decide (a1 < 0)))=true:=c11;exact absurd (uh.symm.trans iV) (by decide)
    ·rw [if_neg c11] at H;have iV:((decide (a0 < 0)) != (decide (a1 < 0)))=false:=by simpa using c11
     (try (have xM:decide ((decide (a0 < 0))=(decide (a1 < 0)))=true:=by simpa using c11))
     (try (have aot:((decide (a0 < 0)) == (decide (a1 < 0)))=true:=by simpa using c11))
     clear c11
     (first|rw [iV]|(simp only [cZ,dD];rw [iV])|skip)
     have H':=aj.mk H;clear H;go_wp2;go_meet
     case rel=>exact ⟨_,(false),zT,H',⟨by first|omega|exact Nat.le_refl _⟩,⟨by refine zD ?_;refine aY (cs := #[.int .u64 wK,.int .u64 0]) ?_ 1 _ rfl;refine zD ?_;refine aY (cs := #[.int .u64 0,.int .u64 0]) ?_ 0 _ rfl;refine zD ?_;exact kK.out⟩,⟨zB⟩⟩
   case rest =>
    clear HC7;obtain ⟨kq,abM,rfl,HA,HJ6,kK,HB⟩:=hcut;cases kq with
    | zero=>exact absurd HA.out (by simp [dZ.j0])
    | succ kj6 =>
     have H:=HA.out;clear HA;simp only [dZ.j0] at H;by_cases c12:abM=true
     ·subst c12;rw [if_pos rfl] at H;(try dsimp only at H);replace H:=zO H;obtain ⟨⟨acp,ad4⟩,A13,H⟩:=H;try dsimp only at H
      replace H:=zO H;obtain ⟨alE,A14,H⟩:=H;try dsimp only at H
      obtain rfl:=Option.some.inj H;obtain ⟨_,_⟩:=zC2 kK.out;obtain ⟨_,_⟩:=zF2 kK.out;go_wp2_with (first|((with_reducible refine ay (f:=124) rfl ?_);refine aH (some 31) rfl rfl Tryz.func124 (by kernel_rfl) rfl #[.agg #[.int .u64 wK,.int .u64 wL],.agg #[.int .u64 0,.int .u64 1]] rfl zL ?_;(with_reducible refine (gY.calls wK wL 0 1 acp ad4 _ A13.out).mono ?_);rintro e w16 ⟨rfl,hb⟩;refine ⟨_,rfl,?_⟩;obtain ⟨kK,HB⟩:=zA2 (aA (zK kK) hb) (ak zB hb);(try clear hb);obtain ⟨_,_⟩:=zC2 kK.out;obtain ⟨_,_⟩:=zF2 kK.out)|((with_reducible refine ay (f:=125) rfl ?_);refine aH (some 34) rfl rfl Tryz.func125 (by kernel_rfl) rfl #[.agg #[.int .u64 acp,.int .u64 ad4],.bool false] rfl zL ?_;(with_reducible refine (bY.calls kj6 acp ad4 false alE _ (by have h:=A14.out;rw [uh] at h;exact h)).mono ?_);rintro e w18 ⟨rfl,hb⟩;refine ⟨_,rfl,?_⟩;obtain ⟨kK,HB⟩:=zA2 (aA (g:=ahU) (o := .cells #[.int .u64 acp,.int .u64 ad4] 179 (0,0)) (by refine zD ?_;refine aY (cs := #[.int .u64 acp,.int .u64 wL]) ?_ 1 _ rfl;refine zD ?_;refine aY (cs := #[.int .u64 wK,.int .u64 wL]) ?_ 0 _ rfl;refine zD ?_;exact kK.out) hb) (ak zB hb);(try clear hb)));go_ret;exact ⟨zS,zB⟩
     ·replace c12:=Bool.eq_false_iff.mpr c12;subst c12;rw [if_neg (show ¬ (false=true) by decide)] at H;(try dsimp only at H);replace H:=zO H;obtain ⟨alF,A19,H⟩:=H;try dsimp only at H
      obtain rfl:=Option.some.inj H;obtain ⟨_,_⟩:=zC2 kK.out;obtain ⟨_,_⟩:=zF2 kK.out;go_wp2_with (first|((with_reducible refine ay (f:=125) rfl ?_);refine aH (some 34) rfl rfl Tryz.func125 (by kernel_rfl) rfl #[.agg #[.int .u64 wK,.int .u64 wL],.bool false] rfl zL ?_;(with_reducible refine (bY.calls kj6 wK wL false alF _ (by have h:=A19.out;rw [uh] at h;exact h)).mono ?_);rintro e w21 ⟨rfl,hb⟩;refine ⟨_,rfl,?_⟩;obtain ⟨kK,HB⟩:=zA2 (aA (zK kK) hb) (ak zB hb);(try clear hb)));go_ret;exact ⟨zS,zB⟩
mutual
def aG.j0:Nat->List Int->Bool->Option (List Int × Int)
 | 0,_,_=>none
 | k+1,x0,x22=>if x22=true then (some (([]:List Int),7)) else (aG.l0 k x0 x0 (x0.length:Int) 0)
def aG.l0:Nat->List Int->List Int->Int->Int->Option (List Int × Int)
 | 0,_,_,_,_=>none
 | k+1,x0,x23,x24,x25=>if x25 < x24 then (if 0<=x25 then (if x25 < (x23.length:Int) then ((iT.f (rd x23 x25)).bind fun ad5=>(if ad5 > 1099511627776 then (some (([]:List Int),7)) else (aG.l0 k x0 x23 x24 (wrap64 (x25+1))))) else (none)) else (none)) else ((fF.f k x0).bind fun rD=>(if rD < 268435456 then (some (([]:List Int),8)) else (aG.l1 k rD ([]:List Int) ([]:List Int) 16384 x0 (x0.length:Int) 0)))
def aG.l1:Nat->Int->List Int->List Int->Int->List Int->Int->Int->Option (List Int × Int)
 | 0,_,_,_,_,_,_,_=>none
 | k+1,x6,x7,x8,x9,x37,x38,x39=>if x39 < x38 then (if 0<=x39 then (if x39 < (x37.length:Int) then ((dZ.f k (wrap64 ((rd x37 x39)*16384)) x6).bind fun qR=>(if x7.length < 17592186044416 then (if x8.length < 17592186044416 then (aG.l1 k x6 (x7 ++ [qR]) (x8 ++ [wrap64 ((wrap64 ((rd x37 x39)*16384)) - (wrap64 (qR*x6)))]) (wrap64 (x9 - qR)) x37 x38 (wrap64 (x39+1))) else (none)) else (none))) else (none)) else (none)) else (aG.l2 k x7 x8 x9)
def aG.l2:Nat->List Int->List Int->Int->Option (List Int × Int)
 | 0,_,_,_=>none
 | k+1,x7,x8,x9=>if x9 > 0 then (aG.l3 k x7 x8 x9 0 (x8.length:Int) 0) else (some (x7,0))
def aG.l3:Nat->List Int->List Int->Int->Int->Int->Int->Option (List Int × Int)
 | 0,_,_,_,_,_,_=>none
 | k+1,x7,x8,x9,x13,x67,x68=>if x68 < x67 then (if 0<=x68 then (if x68 < (x8.length:Int) then (if 0<=x13 then (if x13 < (x8.length:Int) then (if (rd x8 x68) > (rd x8 x13) then (aG.l3 k x7 x8 x9 x68 x67 (wrap64 (x68+1))) else (aG.l3 k x7 x8 x9 x13 x67 (wrap64 (x68+1)))) else (none)) else (none)) else (none)) else (none)) else (if 0<=x13 then (if x13 < (x7.length:Int) then (if x13 < (x8.length:Int) then (aG.l2 k (x7.set (x13:Int).toNat (wrap64 ((rd x7 x13)+1))) (x8.set (x13:Int).toNat (-1)) (wrap64 (x9 - 1))) else (none)) else (none)) else (none))
end
def aG.f (k:Nat) (l0:List Int):Option (List Int × Int):=if (l0.length:Int) < 1 then (aG.j0 k l0 true) else (aG.j0 k l0 (decide ((l0.length:Int) > 1048576)))
theorem aG.calls (k:Nat) (A0:Option Addr) (c0:Nat) (l0 r1:List Int) (r2:Int) (w:World) (hr0:Kd.C (Kd.int .i64) w A0 l0.length l0) (hc0:l0.length<=c0) (h:aG.f k l0=some (r1,r2)) :
  Calls Tryz.prog 115 #[.slice A0 l0.length c0] w fun e w'=>∃ v0_:Value,e = .returned (.tuple #[v0_,.int .i64 r2])/\Kd.R (Kd.int .i64) 2 w' w.heap.size (fun _=>True) v0_ r1/\Below w.heap.size w w':=by
 have HR0:=aj.mk hr0;have HC0:=aj.mk hc0;clear hr0 hc0;have HB:=aj.mk (Below.refl w.heap.size w);have H:=h;clear h;unfold aG.f at H;have HC2:=aj.mk H;clear H;go_enter Tryz.func115,Tryz.ntmps115;go_upto_region 1 with (fail);repeat (go_quiet (fail);go_upto_region 1 with (fail))
 go_cut [22] (fun v22 wc=>∃ (kq:Nat) (akE:Bool),v22 = .bool akE/\aj (aG.j0 kq l0 akE=some (r1,r2))/\aj (kq<=k)/\aj (Below w.heap.size w wc))
 case first =>
  have H:=HC2.out;clear HC2;by_cases c3:(l0.length:Int) < 1
  ·rw [if_pos c3] at H;have gI:=decide_eq_true c3;have xZ:decide (l0.length < 1)=true:=decide_eq_true (by omega);clear c3
   (first|rw [gI]|(simp only [cZ,dD];rw [gI])|skip)
   have H':=aj.mk H;clear H;go_wp2;repeat (go_quiet (fail);try go_wp2)
   go_meet
   case rel=>exact ⟨_,(true),zT,H',⟨by first|omega|exact Nat.le_refl _⟩,⟨zB⟩⟩
  ·rw [if_neg c3] at H;have gI:=decide_eq_false c3;have xZ:decide (l0.length < 1)=false:=decide_eq_false (by omega);clear c3
   (first|rw [gI]|(simp only [cZ,dD];rw [gI])|skip)
   have H':=aj.mk H;clear H;go_wp2;repeat (go_quiet (fail);try go_wp2)
   go_meet
   case rel=>exact ⟨_,(decide ((l0.length:Int) > 1048576)),zT,H',⟨by first|omega|exact Nat.le_refl _⟩,⟨zB⟩⟩
 case rest =>
  clear HC2;obtain ⟨kq,akE,rfl,HA,HJ1,HB⟩:=hcut;cases kq with
  | zero=>exact absurd HA.out (by simp [aG.j0])
  | succ kj1 =>
   have H:=HA.out;clear HA;simp only [aG.j0] at H;by_cases c4:akE=true
   ·subst c4;rw [if_pos rfl] at H;(try dsimp only at H);simp only [Option.some.injEq,Prod.mk.injEq] at H;obtain ⟨rfl,rfl⟩:=H;go_wp2;repeat (go_quiet (fail);try go_wp2)
    go_ret2;exact ⟨_,zS,by first|exact Kd.jY _ _ _ _ _|exact Kd.qB _ _ _ _ _|exact Kd.oL _ _ _ _ _|exact Kd.qC _ _ _ _ _|exact Kd.pW _ _ _ _ _,zB⟩
   ·replace c4:=Bool.eq_false_iff.mpr c4;subst c4;rw [if_neg (show ¬ (false=true) by decide)] at H;(try dsimp only at H);have H':=aj.mk H;clear H;go_wp2;repeat (go_quiet (fail);try go_wp2)
    go_loopg [25] kj1 (fun kq v25 w'=>∃ (rE:Int),v25 = .int .i64 rE/\aj (aG.l0 kq l0 l0 (l0.length:Int) rE=some (r1,r2))/\aj (kq<=kj1)/\aj (Below w.heap.size w w'))
    case atStart=>exact ⟨(0),zT,H',⟨Nat.le_refl _⟩,⟨zB⟩⟩
    case round =>
     clear H';obtain ⟨rE,rfl,HA,HK2,HB⟩:=hrel;cases gk with
     | zero=>exact absurd HA.out (by simp [aG.l0])
     | succ k2 =>
      have H:=HA.out;clear HA;simp only [aG.l0] at H;by_cases c5:rE < (l0.length:Int)
      ·rw [if_pos c5] at H;have iy:=decide_eq_true c5;clear c5;by_cases c6:0<=rE
       ·rw [if_pos c6] at H;have iF:=decide_eq_true c6;clear c6;by_cases c7:rE < (l0.length:Int)
        ·rw [if_pos c7] at H;have jk:=decide_eq_true c7;clear c7;replace H:=zO H;obtain ⟨ad5,A8,H⟩:=H;try dsimp only at H
         by_cases c9:ad5 > 1099511627776
         ·rw [if_pos c9] at H;have qH:=decide_eq_true c9;clear c9;simp only [Option.some.injEq,Prod.mk.injEq] at H;obtain ⟨rfl,rfl⟩:=H;have agS:0<=(rE:Int):=of_decide_eq_true (by first|(with_reducible assumption)|assumption);have agT:rE < (l0.length:Int):=of_decide_eq_true (by first|(with_reducible assumption)|assumption);obtain ⟨ax4,arn,aaN⟩:=Kd.iZ HR0.out rE agS agT;cases arn;replace aaN:=(HB.out.cell (World.block_lt_of_cell? w _ aaN)).trans aaN;replace agS:=eq_true agS;replace agT:=eq_true agT;go_wp2_with (first|(go_at_call 142;(with_reducible refine (iT.calls (rd l0 rE) ad5 _ A8.out).mono ?_);rintro e w' ⟨rfl,⟨nd,rfl⟩⟩;(try exact ⟨rfl,_,zN⟩)));repeat (go_quiet (first|(go_at_call 142;(with_reducible refine (iT.calls (rd l0 rE) ad5 _ A8.out).mono ?_);rintro e w' ⟨rfl,⟨nd,rfl⟩⟩;(try exact ⟨rfl,_,zN⟩)));try go_wp2_with (first|(go_at_call 142;(with_reducible refine (iT.calls (rd l0 rE) ad5 _ A8.out).mono ?_);rintro e w' ⟨rfl,⟨nd,rfl⟩⟩;(try exact ⟨rfl,_,zN⟩))))
          go_ret2;exact ⟨_,zS,by first|exact Kd.jY _ _ _ _ _|exact Kd.qB _ _ _ _ _|exact Kd.oL _ _ _ _ _|exact Kd.qC _ _ _ _ _|exact Kd.pW _ _ _ _ _,zB⟩
         ·rw [if_neg c9] at H;have qH:=decide_eq_false c9;clear c9;have H':=aj.mk H;clear H;have agS:0<=(rE:Int):=of_decide_eq_true (by first|(with_reducible assumption)|assumption);have agT:rE < (l0.length:Int):=of_decide_eq_true (by first|(with_reducible assumption)|assumption);obtain ⟨ax4,arn,aaN⟩:=Kd.iZ HR0.out rE agS agT;cases arn;replace aaN:=(HB.out.cell (World.block_lt_of_cell? w _ aaN)).trans aaN;replace agS:=eq_true agS;replace agT:=eq_true agT;go_wp2_with (first|(go_at_call 142;(with_reducible refine (iT.calls (rd l0 rE) ad5 _ A8.out).mono ?_);rintro e w' ⟨rfl,⟨nd,rfl⟩⟩;(try exact ⟨rfl,_,zN⟩)));repeat (go_quiet (first|(go_at_call 142;(with_reducible refine (iT.calls (rd l0 rE) ad5 _ A8.out).mono ?_);rintro e w' ⟨rfl,⟨nd,rfl⟩⟩;(try exact ⟨rfl,_,zN⟩)));try go_wp2_with (first|(go_at_call 142;(with_reducible refine (iT.calls (rd l0 rE) ad5 _ A8.out).mono ?_);rintro e w' ⟨rfl,⟨nd,rfl⟩⟩;(try exact ⟨rfl,_,zN⟩))))
          go_roundg k2
          case measure=>have:=HJ1.out;have:=HK2.out;omega
          case rel=>exact ⟨(wrap64 (rE+1)),zT,H',⟨by have:=HJ1.out;have:=HK2.out;omega⟩,⟨zB⟩⟩
        ·rw [if_neg c7] at H;exact absurd H (by simp)
       ·rw [if_neg c6] at H;exact absurd H (by simp)
      ·rw [if_neg c5] at H;have iy:=decide_eq_false c5;clear c5;replace H:=zO H;obtain ⟨rD,A10,H⟩:=H;try dsimp only at H
       by_cases c11:rD < 268435456
       ·rw [if_pos c11] at H;have iV:=decide_eq_true c11;clear c11;simp only [Option.some.injEq,Prod.mk.injEq] at H;obtain ⟨rfl,rfl⟩:=H;go_wp2_with (first|(go_at_call 143;(with_reducible refine (fF.calls k2 _ _ l0 rD _ ?iW ?iY A10.out).mono ?_);(case iW=>repeat (first|exact (Kd.bQ HR0.out HB.out)|(with_reducible refine Kd.jo ?_ _)|(with_reducible refine Kd.jO ?_ _)|(with_reducible refine Kd.lq ?_)));(case iY=>exact HC0.out);rintro e w' ⟨rfl,⟨nd,rfl⟩⟩;(try exact ⟨rfl,_,zN⟩)));repeat (go_quiet (first|(go_at_call 143;(with_reducible refine (fF.calls k2 _ _ l0 rD _ ?iW ?iY A10.out).mono ?_);(case iW=>repeat (first|exact (Kd.bQ HR0.out HB.out)|(with_reducible refine Kd.jo ?_ _)|(with_reducible refine Kd.jO ?_ _)|(with_reducible refine Kd.lq ?_)));(case iY=>exact HC0.out);rintro e w' ⟨rfl,⟨nd,rfl⟩⟩;(try exact ⟨rfl,_,zN⟩)));try go_wp2_with (first|(go_at_call 143;(with_reducible refine (fF.calls k2 _ _ l0 rD _ ?iW ?iY A10.out).mono ?_);(case iW=>repeat (first|exact (Kd.bQ HR0.out HB.out)|(with_reducible refine Kd.jo ?_ _)|(with_reducible refine Kd.jO ?_ _)|(with_reducible refine Kd.lq ?_)));(case iY=>exact HC0.out);rintro e w' ⟨rfl,⟨nd,rfl⟩⟩;(try exact ⟨rfl,_,zN⟩))))
        go_ret2;exact ⟨_,zS,by first|exact Kd.jY _ _ _ _ _|exact Kd.qB _ _ _ _ _|exact Kd.oL _ _ _ _ _|exact Kd.qC _ _ _ _ _|exact Kd.pW _ _ _ _ _,zB⟩
       ·rw [if_neg c11] at H;have iV:=decide_eq_false c11;clear c11;have H':=aj.mk H;clear H;go_wp2_with (first|(go_at_call 143;(with_reducible refine (fF.calls k2 _ _ l0 rD _ ?iW ?iY A10.out).mono ?_);(case iW=>repeat (first|exact (Kd.bQ HR0.out HB.out)|(with_reducible refine Kd.jo ?_ _)|(with_reducible refine Kd.jO ?_ _)|(with_reducible refine Kd.lq ?_)));(case iY=>exact HC0.out);rintro e w' ⟨rfl,⟨nd,rfl⟩⟩;(try exact ⟨rfl,_,zN⟩)));repeat (go_quiet (first|(go_at_call 143;(with_reducible refine (fF.calls k2 _ _ l0 rD _ ?iW ?iY A10.out).mono ?_);(case iW=>repeat (first|exact (Kd.bQ HR0.out HB.out)|(with_reducible refine Kd.jo ?_ _)|(with_reducible refine Kd.jO ?_ _)|(with_reducible refine Kd.lq ?_)));(case iY=>exact HC0.out);rintro e w' ⟨rfl,⟨nd,rfl⟩⟩;(try exact ⟨rfl,_,zN⟩)));try go_wp2_with (first|(go_at_call 143;(with_reducible refine (fF.calls k2 _ _ l0 rD _ ?iW ?iY A10.out).mono ?_);(case iW=>repeat (first|exact (Kd.bQ HR0.out HB.out)|(with_reducible refine Kd.jo ?_ _)|(with_reducible refine Kd.jO ?_ _)|(with_reducible refine Kd.lq ?_)));(case iY=>exact HC0.out);rintro e w' ⟨rfl,⟨nd,rfl⟩⟩;(try exact ⟨rfl,_,zN⟩))))
        try simp only [Act.put,List.setIfInBounds_toArray,List.set_cons_succ,List.set_cons_zero]
        go_loopg [7,8,9,39] k2 (fun kq v7 v8 v9 v39 w'=>∃ (aae:List Int) (acr:List Int) (agU:Int) (pz:Int),v9 = .int .i64 agU/\v39 = .int .i64 pz/\aj (aG.l1 kq rD aae acr agU l0 (l0.length:Int) pz=some (r1,r2))/\aj (kq<=k2)/\aj (Kd.R (Kd.int .i64) 2 w' w.heap.size (fun k_=>some k_≠(v8:Value).ownBlock) v7 aae)/\aj (Kd.R (Kd.int .i64) 2 w' w.heap.size (fun k_=>some k_≠(v7:Value).ownBlock) v8 acr)/\aj (Below w.heap.size w w'))
        case atStart=>exact ⟨(([]:List Int)),(([]:List Int)),(16384),(0),zT,zT,H',⟨Nat.le_refl _⟩,⟨by first|exact Kd.jY _ _ _ _ _|exact Kd.qB _ _ _ _ _|exact Kd.oL _ _ _ _ _|exact Kd.qC _ _ _ _ _|exact Kd.pW _ _ _ _ _⟩,⟨by first|exact Kd.jY _ _ _ _ _|exact Kd.qB _ _ _ _ _|exact Kd.oL _ _ _ _ _|exact Kd.qC _ _ _ _ _|exact Kd.pW _ _ _ _ _⟩,⟨zB⟩⟩
        case round =>
         clear H';try clear hx3
         obtain ⟨aae,acr,agU,pz,rfl,rfl,HA,HK3,jH,dR,HB⟩:=hrel;cases gk with
         | zero=>exact absurd HA.out (by simp [aG.l1])
         | succ k3 =>
          have H:=HA.out;clear HA;simp only [aG.l1] at H;by_cases c12:pz < (l0.length:Int)
          ·rw [if_pos c12] at H;have aa2:=decide_eq_true c12;clear c12;by_cases c13:0<=pz
           ·rw [if_pos c13] at H;have aa1:=decide_eq_true c13;clear c13;by_cases c14:pz < (l0.length:Int)
            ·rw [if_pos c14] at H;have acR:=decide_eq_true c14;clear c14;replace H:=zO H;obtain ⟨qR,A15,H⟩:=H;try dsimp only at H
             by_cases c16:aae.length < 17592186044416
             ·rw [if_pos c16] at H;have aou:=aj.mk c16;clear c16;obtain ⟨aro,ahV⟩:∃ y_:List Int,y_=(aae ++ [qR]):=⟨_,rfl⟩;replace H:(if acr.length < 17592186044416 then (aG.l1 k3 rD aro (acr ++ [wrap64 ((wrap64 ((rd l0 pz)*16384)) - (wrap64 (qR*rD)))]) (wrap64 (agU - qR)) l0 (l0.length:Int) (wrap64 (pz+1))) else (none))=some (r1,r2):=(by first|(rw [ahV];with_reducible exact H)|(have H2_:=(Option.bind_some _ _).symm.trans H;rw [ahV];with_reducible exact H2_)|(have H2_:=(Option.bind_some _ _).symm.trans H;with_reducible exact H2_)|with_reducible exact H|(rw [ahV];exact H)|exact H);have aov:=aj.mk ahV;clear ahV;by_cases c17:acr.length < 17592186044416
              ·rw [if_pos c17] at H;have aow:=aj.mk c17;clear c17;obtain ⟨avC,ahW⟩:∃ y_:List Int,y_=(acr ++ [wrap64 ((wrap64 ((rd l0 pz)*16384)) - (wrap64 (qR*rD)))]):=⟨_,rfl⟩;replace H:(aG.l1 k3 rD aro avC (wrap64 (agU - qR)) l0 (l0.length:Int) (wrap64 (pz+1)))=some (r1,r2):=(by first|(rw [ahW];with_reducible exact H)|(have H2_:=(Option.bind_some _ _).symm.trans H;rw [ahW];with_reducible exact H2_)|(have H2_:=(Option.bind_some _ _).symm.trans H;with_reducible exact H2_)|with_reducible exact H|(rw [ahW];exact H)|exact H);have aox:=aj.mk ahW;clear ahW;have H':=aj.mk H;clear H;have arp:0<=(pz:Int):=of_decide_eq_true (by first|(with_reducible assumption)|assumption);have arq:pz < (l0.length:Int):=of_decide_eq_true (by first|(with_reducible assumption)|assumption);obtain ⟨aDu,ay5,aiX⟩:=Kd.iZ HR0.out pz arp arq;cases ay5;replace aiX:=(HB.out.cell (World.block_lt_of_cell? w _ aiX)).trans aiX;replace arp:=eq_true arp;replace arq:=eq_true arq;go_wp2_with (first|(go_at_call 144;(with_reducible refine (dZ.calls k3 (wrap64 ((rd l0 pz)*16384)) rD qR _ A15.out).mono ?_);rintro e w18 ⟨rfl,hb⟩;obtain ⟨jH,dR,HB⟩:=zA3 (Kd.jc (by (with_reducible repeat (first|apply Kd.aK|apply Kd.aQ|apply Kd.aW));exact jH.out) hb) (Kd.jc (by (with_reducible repeat (first|apply Kd.aK|apply Kd.aQ|apply Kd.aW));exact dR.out) hb) (ak zB hb);(try clear hb))|((with_reducible refine jQ (b := .append) (xs := #[.tmp 47,.tmp 49]) rfl ?_);(try (refine kX (by rfl) ?_;dsimp only));at_builtin;refine Kd.kW (Kd.int .i64) (w0:=w) w.heap.size rfl (.tmp 47) (.tmp 49) 44 2 (.int .i64 0) 8 rfl Tryz.underlying44 wQ rfl (by decide) (by omega) u7 aae qR [.int .i64 qR] (fun k_=>some k_≠(u8:Value).ownBlock) (fun _=>False) rfl rfl ?aP (fun _ hk=>hk.elim) ?aF ?aO ?aB ?aS ?aL ?_;(case aP=>exact rfl);(case aB=>exact zB);(case aF=>exact (fun k_ hk=>Kd.fresh' (Kd.lS (by (with_reducible repeat (first|apply Kd.aK|apply Kd.aQ|apply Kd.aW));exact dR.out)) k_ hk));(case aO=>exact (by (with_reducible repeat (first|apply Kd.aK|apply Kd.aQ|apply Kd.aW));exact jH.out));(case aS=>exact (bT zB));(case aL=>have:=aou.out;omega);intro alG w19 ho hb hg hat;rw [<- aov.out] at ho;obtain ⟨dR,HB,yL⟩:=zA3 (Kd.sQ (ok:=(fun _=>True)) (by (with_reducible repeat (first|apply Kd.aK|apply Kd.aQ|apply Kd.aW));exact Kd.dU dR.out (fun _ hk=>⟨trivial,hk⟩)) hg hat) hb ho;clear ho hb hg hat)|((with_reducible refine jQ (b := .append) (xs := #[.tmp 51,.tmp 58]) rfl ?_);(try (refine kX (by rfl) ?_;dsimp only));at_builtin;refine Kd.kW (Kd.int .i64) (w0:=w) w.heap.size rfl (.tmp 51) (.tmp 58) 44 2 (.int .i64 0) 8 rfl Tryz.underlying44 wQ rfl (by decide) (by omega) u8 acr (wrap64 ((wrap64 ((rd l0 pz)*16384)) - (wrap64 (qR*rD)))) [.int .i64 (wrap64 ((wrap64 ((rd l0 pz)*16384)) - (wrap64 (qR*rD))))] (fun k_=>some k_≠(alG:Value).ownBlock) (fun _=>False) rfl rfl ?aP (fun _ hk=>hk.elim) ?aF ?aO ?aB ?aS ?aL ?_;(case aP=>exact rfl);(case aB=>exact zB);(case aF=>exact (fun k_ hk=>Kd.fresh' (Kd.lS (by (with_reducible repeat (first|apply Kd.aK|apply Kd.aQ|apply Kd.aW));exact yL.out)) k_ hk));(case aO=>exact (by (with_reducible repeat (first|apply Kd.aK|apply Kd.aQ|apply Kd.aW));exact Kd.dU dR.out (fun _ hk=>hk.2)));(case aS=>exact (bT zB));(case aL=>have:=aow.out;omega);intro avD w20 ho hb hg hat;rw [<- aox.out] at ho;obtain ⟨yL,HB,aoy⟩:=zA3 (Kd.sQ (ok:=(fun _=>True)) (by (with_reducible repeat (first|apply Kd.aK|apply Kd.aQ|apply Kd.aW));exact Kd.dU yL.out (fun _ hk=>⟨trivial,hk⟩)) hg hat) hb ho;clear ho hb hg hat));repeat (go_quiet (first|(go_at_call 144;(with_reducible refine (dZ.calls k3 (wrap64 ((rd l0 pz)*16384)) rD qR _ A15.out).mono ?_);rintro e w18 ⟨rfl,hb⟩;obtain ⟨jH,dR,HB⟩:=zA3 (Kd.jc (by (with_reducible repeat (first|apply Kd.aK|apply Kd.aQ|apply Kd.aW));exact jH.out) hb) (Kd.jc (by (with_reducible repeat (first|apply Kd.aK|apply Kd.aQ|apply Kd.aW));exact dR.out) hb) (ak zB hb);(try clear hb))|((with_reducible refine jQ (b := .append) (xs := #[.tmp 47,.tmp 49]) rfl ?_);(try (refine kX (by rfl) ?_;dsimp only));at_builtin;refine Kd.kW (Kd.int .i64) (w0:=w) w.heap.size rfl (.tmp 47) (.tmp 49) 44 2 (.int .i64 0) 8 rfl Tryz.underlying44 wQ rfl (by decide) (by omega) u7 aae qR [.int .i64 qR] (fun k_=>some k_≠(u8:Value).ownBlock) (fun _=>False) rfl rfl ?aP (fun _ hk=>hk.elim) ?aF ?aO ?aB ?aS ?aL ?_;(case aP=>exact rfl);(case aB=>exact zB);(case aF=>exact (fun k_ hk=>Kd.fresh' (Kd.lS (by (with_reducible repeat (first|apply Kd.aK|apply Kd.aQ|apply Kd.aW));exact dR.out)) k_ hk));(case aO=>exact (by (with_reducible repeat (first|apply Kd.aK|apply Kd.aQ|apply Kd.aW));exact jH.out));(case aS=>exact (bT zB));(case aL=>have:=aou.out;omega);intro alG w19 ho hb hg hat;rw [<- aov.out] at ho;obtain ⟨dR,HB,yL⟩:=zA3 (Kd.sQ (ok:=(fun _=>True)) (by (with_reducible repeat (first|apply Kd.aK|apply Kd.aQ|apply Kd.aW));exact Kd.dU dR.out (fun _ hk=>⟨trivial,hk⟩)) hg hat) hb ho;clear ho hb hg hat)|((with_reducible refine jQ (b := .append) (xs := #[.tmp 51,.tmp 58]) rfl ?_);(try (refine kX (by rfl) ?_;dsimp only));at_builtin;refine Kd.kW (Kd.int .i64) (w0:=w) w.heap.size rfl (.tmp 51) (.tmp 58) 44 2 (.int .i64 0) 8 rfl Tryz.underlying44 wQ rfl (by decide) (by omega) u8 acr (wrap64 ((wrap64 ((rd l0 pz)*16384)) - (wrap64 (qR*rD)))) [.int .i64 (wrap64 ((wrap64 ((rd l0 pz)*16384)) - (wrap64 (qR*rD))))] (fun k_=>some k_≠(alG:Value).ownBlock) (fun _=>False) rfl rfl ?aP (fun _ hk=>hk.elim) ?aF ?aO ?aB ?aS ?aL ?_;(case aP=>exact rfl);(case aB=>exact zB);(case aF=>exact (fun k_ hk=>Kd.fresh' (Kd.lS (by (with_reducible repeat (first|apply Kd.aK|apply Kd.aQ|apply Kd.aW));exact yL.out)) k_ hk));(case aO=>exact (by (with_reducible repeat (first|apply Kd.aK|apply Kd.aQ|apply Kd.aW));exact Kd.dU dR.out (fun _ hk=>hk.2)));(case aS=>exact (bT zB));(case aL=>have:=aow.out;omega);intro avD w20 ho hb hg hat;rw [<- aox.out] at ho;obtain ⟨yL,HB,aoy⟩:=zA3 (Kd.sQ (ok:=(fun _=>True)) (by (with_reducible repeat (first|apply Kd.aK|apply Kd.aQ|apply Kd.aW));exact Kd.dU yL.out (fun _ hk=>⟨trivial,hk⟩)) hg hat) hb ho;clear ho hb hg hat));try go_wp2_with (first|(go_at_call 144;(with_reducible refine (dZ.calls k3 (wrap64 ((rd l0 pz)*16384)) rD qR _ A15.out).mono ?_);rintro e w18 ⟨rfl,hb⟩;obtain ⟨jH,dR,HB⟩:=zA3 (Kd.jc (by (with_reducible repeat (first|apply Kd.aK|apply Kd.aQ|apply Kd.aW));exact jH.out) hb) (Kd.jc (by (with_reducible repeat (first|apply Kd.aK|apply Kd.aQ|apply Kd.aW));exact dR.out) hb) (ak zB hb);(try clear hb))|((with_reducible refine jQ (b := .append) (xs := #[.tmp 47,.tmp 49]) rfl ?_);(try (refine kX (by rfl) ?_;dsimp only));at_builtin;refine Kd.kW (Kd.int .i64) (w0:=w) w.heap.size rfl (.tmp 47) (.tmp 49) 44 2 (.int .i64 0) 8 rfl Tryz.underlying44 wQ rfl (by decide) (by omega) u7 aae qR [.int .i64 qR] (fun k_=>some k_≠(u8:Value).ownBlock) (fun _=>False) rfl rfl ?aP (fun _ hk=>hk.elim) ?aF ?aO ?aB ?aS ?aL ?_;(case aP=>exact rfl);(case aB=>exact zB);(case aF=>exact (fun k_ hk=>Kd.fresh' (Kd.lS (by (with_reducible repeat (first|apply Kd.aK|apply Kd.aQ|apply Kd.aW));exact dR.out)) k_ hk));(case aO=>exact (by (with_reducible repeat (first|apply Kd.aK|apply Kd.aQ|apply Kd.aW));exact jH.out));(case aS=>exact (bT zB));(case aL=>have:=aou.out;omega);intro alG w19 ho hb hg hat;rw [<- aov.out] at ho;obtain ⟨dR,HB,yL⟩:=zA3 (Kd.sQ (ok:=(fun _=>True)) (by (with_reducible repeat (first|apply Kd.aK|apply Kd.aQ|apply Kd.aW));exact Kd.dU dR.out (fun _ hk=>⟨trivial,hk⟩)) hg hat) hb ho;clear ho hb hg hat)|((with_reducible refine jQ (b := .append) (xs := #[.tmp 51,.tmp 58]) rfl ?_);(try (refine kX (by rfl) ?_;dsimp only));at_builtin;refine Kd.kW (Kd.int .i64) (w0:=w) w.heap.size rfl (.tmp 51) (.tmp 58) 44 2 (.int .i64 0) 8 rfl Tryz.underlying44 wQ rfl (by decide) (by omega) u8 acr (wrap64 ((wrap64 ((rd l0 pz)*16384)) - (wrap64 (qR*rD)))) [.int .i64 (wrap64 ((wrap64 ((rd l0 pz)*16384)) - (wrap64 (qR*rD))))] (fun k_=>some k_≠(alG:Value).ownBlock) (fun _=>False) rfl rfl ?aP (fun _ hk=>hk.elim) ?aF ?aO ?aB ?aS ?aL ?_;(case aP=>exact rfl);(case aB=>exact zB);(case aF=>exact (fun k_ hk=>Kd.fresh' (Kd.lS (by (with_reducible repeat (first|apply Kd.aK|apply Kd.aQ|apply Kd.aW));exact yL.out)) k_ hk));(case aO=>exact (by (with_reducible repeat (first|apply Kd.aK|apply Kd.aQ|apply Kd.aW));exact Kd.dU dR.out (fun _ hk=>hk.2)));(case aS=>exact (bT zB));(case aL=>have:=aow.out;omega);intro avD w20 ho hb hg hat;rw [<- aox.out] at ho;obtain ⟨yL,HB,aoy⟩:=zA3 (Kd.sQ (ok:=(fun _=>True)) (by (with_reducible repeat (first|apply Kd.aK|apply Kd.aQ|apply Kd.aW));exact Kd.dU yL.out (fun _ hk=>⟨trivial,hk⟩)) hg hat) hb ho;clear ho hb hg hat)))
               go_roundg k3
               case measure=>have:=HJ1.out;have:=HK2.out;have:=HK3.out;omega
               case rel=>exact ⟨(aro),(avC),(wrap64 (agU - qR)),(wrap64 (pz+1)),zT,zT,H',⟨by have:=HJ1.out;have:=HK2.out;have:=HK3.out;omega⟩,⟨by (with_reducible repeat (first|apply Kd.aK|apply Kd.aQ|apply Kd.aW));exact Kd.dU yL.out (fun _ hk=>hk.2)⟩,⟨by (with_reducible repeat (first|apply Kd.aK|apply Kd.aQ|apply Kd.aW));exact aoy.out⟩,⟨zB⟩⟩
              ·rw [if_neg c17] at H;exact absurd H (by simp)
             ·rw [if_neg c16] at H;exact absurd H (by simp)
            ·rw [if_neg c14] at H;exact absurd H (by simp)
           ·rw [if_neg c13] at H;exact absurd H (by simp)
          ·rw [if_neg c12] at H;have aa2:=decide_eq_false c12;clear c12;have H':=aj.mk H;clear H;go_wp2;repeat (go_quiet (fail);try go_wp2)
           try simp only [Act.put,List.setIfInBounds_toArray,List.set_cons_succ,List.set_cons_zero]
           go_loopg [9] k3 (fun kq v9 w'=>∃ (mD:List Int) (lV:List Int) (afB:Int),v9 = .int .i64 afB/\aj (aG.l2 kq mD lV afB=some (r1,r2))/\aj (kq<=k3)/\aj (Kd.R (Kd.int .i64) 2 w' w.heap.size (fun k_=>some k_≠(u8:Value).ownBlock) u7 mD)/\aj (Kd.R (Kd.int .i64) 2 w' w.heap.size (fun k_=>some k_≠(u7:Value).ownBlock) u8 lV)/\aj (Below w.heap.size w w'))
           case atStart=>exact ⟨(aae),(acr),(agU),zT,H',⟨Nat.le_refl _⟩,⟨by (with_reducible repeat (first|apply Kd.aK|apply Kd.aQ|apply Kd.aW));exact jH.out⟩,⟨by (with_reducible repeat (first|apply Kd.aK|apply Kd.aQ|apply Kd.aW));exact dR.out⟩,⟨zB⟩⟩
           case round =>
            clear H';try clear hx3
            obtain ⟨mD,lV,afB,rfl,HA,HK4,jH,dR,HB⟩:=hrel;cases gk with
            | zero=>exact absurd HA.out (by simp [aG.l2])
            | succ k4 =>
             have H:=HA.out;clear HA;simp only [aG.l2] at H;by_cases c21:afB > 0
             ·rw [if_pos c21] at H;have ad6:=decide_eq_true c21;clear c21;have H':=aj.mk H;clear H;obtain ⟨agV,yg,ars⟩:=Kd.gq dR.out;subst ars;go_wp2;repeat (go_quiet (fail);try go_wp2)
              try simp only [Act.put,List.setIfInBounds_toArray,List.set_cons_succ,List.set_cons_zero]
              go_loopg [13,68] k4 (fun kq v13 v68 w'=>∃ (fP:Int) (uN:Int),v13 = .int .i64 fP/\v68 = .int .i64 uN/\aj (aG.l3 kq mD lV afB fP (lV.length:Int) uN=some (r1,r2))/\aj (kq<=k4)/\aj (Kd.R (Kd.int .i64) 2 w' w.heap.size (fun k_=>some k_≠((.slice agV lV.length yg):Value).ownBlock) u7 mD)/\aj (Kd.R (Kd.int .i64) 2 w' w.heap.size (fun k_=>some k_≠(u7:Value).ownBlock) (.slice agV lV.length yg) lV)/\aj (Below w.heap.size w w'))
              case atStart=>exact ⟨(0),(0),zT,zT,H',⟨Nat.le_refl _⟩,⟨by (with_reducible repeat (first|apply Kd.aK|apply Kd.aQ|apply Kd.aW));exact jH.out⟩,⟨by (with_reducible repeat (first|apply Kd.aK|apply Kd.aQ|apply Kd.aW));exact dR.out⟩,⟨zB⟩⟩
              case round =>
               clear H';try clear hx3
               obtain ⟨fP,uN,rfl,rfl,HA,HK5,jH,dR,HB⟩:=hrel;cases gk with
               | zero=>exact absurd HA.out (by simp [aG.l3])
               | succ k5 =>
                have H:=HA.out;clear HA;simp only [aG.l3] at H;by_cases c23:uN < (lV.length:Int)
                ·rw [if_pos c23] at H;have aoz:=decide_eq_true c23;clear c23;by_cases c24:0<=uN
                 ·rw [if_pos c24] at H;have ax5:=decide_eq_true c24;clear c24;by_cases c25:uN < (lV.length:Int)
                  ·rw [if_pos c25] at H;have aDv:=decide_eq_true c25;clear c25;by_cases c26:0<=fP
                   ·rw [if_pos c26] at H;have af8:=decide_eq_true c26;clear c26;by_cases c27:fP < (lV.length:Int)
                    ·rw [if_pos c27] at H;have aDw:=decide_eq_true c27;clear c27;by_cases c28:(rd lV uN) > (rd lV fP)
                     ·rw [if_pos c28] at H;have aoA:=decide_eq_true c28;clear c28;have H':=aj.mk H;clear H;have agW:0<=(uN:Int):=of_decide_eq_true (by first|(with_reducible assumption)|assumption);have agX:uN < (lV.length:Int):=of_decide_eq_true (by first|(with_reducible assumption)|assumption);obtain ⟨aoB,aru,auj⟩:=Kd.iZ (Kd.dH dR.out).2.2 uN agW agX;cases aru;replace agW:=eq_true agW;replace agX:=eq_true agX;have agY:0<=(fP:Int):=of_decide_eq_true (by first|(with_reducible assumption)|assumption);have agZ:fP < (lV.length:Int):=of_decide_eq_true (by first|(with_reducible assumption)|assumption);obtain ⟨aoC,arv,auk⟩:=Kd.iZ (Kd.dH dR.out).2.2 fP agY agZ;obtain rfl:aoB=aoC:=(by injection arv);replace agY:=eq_true agY;replace agZ:=eq_true agZ;go_wp2;repeat (go_quiet (fail);try go_wp2)
                      go_roundg k5
                      case measure=>have:=HJ1.out;have:=HK2.out;have:=HK3.out;have:=HK4.out;have:=HK5.out;omega
                      case rel=>exact ⟨(uN),(wrap64 (uN+1)),zT,zT,H',⟨by have:=HJ1.out;have:=HK2.out;have:=HK3.out;have:=HK4.out;have:=HK5.out;omega⟩,⟨by (with_reducible repeat (first|apply Kd.aK|apply Kd.aQ|apply Kd.aW));exact jH.out⟩,⟨by (with_reducible repeat (first|apply Kd.aK|apply Kd.aQ|apply Kd.aW));exact dR.out⟩,⟨zB⟩⟩
                     ·rw [if_neg c28] at H;have aoA:=decide_eq_false c28;clear c28;have H':=aj.mk H;clear H;have agW:0<=(uN:Int):=of_decide_eq_true (by first|(with_reducible assumption)|assumption);have agX:uN < (lV.length:Int):=of_decide_eq_true (by first|(with_reducible assumption)|assumption);obtain ⟨aoB,aru,auj⟩:=Kd.iZ (Kd.dH dR.out).2.2 uN agW agX;cases aru;replace agW:=eq_true agW;replace agX:=eq_true agX;have agY:0<=(fP:Int):=of_decide_eq_true (by first|(with_reducible assumption)|assumption);have agZ:fP < (lV.length:Int):=of_decide_eq_true (by first|(with_reducible assumption)|assumption);obtain ⟨aoC,arv,auk⟩:=Kd.iZ (Kd.dH dR.out).2.2 fP agY agZ;obtain rfl:aoB=aoC:=(by injection arv);replace agY:=eq_true agY;replace agZ:=eq_true agZ;go_wp2;repeat (go_quiet (fail);try go_wp2)
                      go_roundg k5
                      case measure=>have:=HJ1.out;have:=HK2.out;have:=HK3.out;have:=HK4.out;have:=HK5.out;omega
                      case rel=>exact ⟨(fP),(wrap64 (uN+1)),zT,zT,H',⟨by have:=HJ1.out;have:=HK2.out;have:=HK3.out;have:=HK4.out;have:=HK5.out;omega⟩,⟨by (with_reducible repeat (first|apply Kd.aK|apply Kd.aQ|apply Kd.aW));exact jH.out⟩,⟨by (with_reducible repeat (first|apply Kd.aK|apply Kd.aQ|apply Kd.aW));exact dR.out⟩,⟨zB⟩⟩
                    ·rw [if_neg c27] at H;exact absurd H (by simp)
                   ·rw [if_neg c26] at H;exact absurd H (by simp)
                  ·rw [if_neg c25] at H;exact absurd H (by simp)
                 ·rw [if_neg c24] at H;exact absurd H (by simp)
                ·rw [if_neg c23] at H;have aoz:=decide_eq_false c23;clear c23;by_cases c29:0<=fP
                 ·rw [if_pos c29] at H;have aoe:=decide_eq_true c29;clear c29;by_cases c30:fP < (mD.length:Int)
                  ·rw [if_pos c30] at H;have atq:=decide_eq_true c30;clear c30;obtain ⟨aiY,ahX⟩:∃ y_:List Int,y_=(mD.set (fP:Int).toNat (wrap64 ((rd mD fP)+1))):=⟨_,rfl⟩;replace H:(if fP < (lV.length:Int) then (aG.l2 k5 aiY (lV.set (fP:Int).toNat (-1)) (wrap64 (afB - 1))) else (none))=some (r1,r2):=(by first|(rw [ahX];with_reducible exact H)|(have H2_:=(Option.bind_some _ _).symm.trans H;rw [ahX];with_reducible exact H2_)|(have H2_:=(Option.bind_some _ _).symm.trans H;with_reducible exact H2_)|with_reducible exact H|(rw [ahX];exact H)|exact H);have aoD:=aj.mk ahX;clear ahX;by_cases c32:fP < (lV.length:Int)
                   ·rw [if_pos c32] at H;have aDx:=decide_eq_true c32;clear c32;obtain ⟨alH,ahY⟩:∃ y_:List Int,y_=(lV.set (fP:Int).toNat (-1)):=⟨_,rfl⟩;replace H:(aG.l2 k5 aiY alH (wrap64 (afB - 1)))=some (r1,r2):=(by first|(rw [ahY];with_reducible exact H)|(have H2_:=(Option.bind_some _ _).symm.trans H;rw [ahY];with_reducible exact H2_)|(have H2_:=(Option.bind_some _ _).symm.trans H;with_reducible exact H2_)|with_reducible exact H|(rw [ahY];exact H)|exact H);have aoE:=aj.mk ahY;clear ahY;have H':=aj.mk H;clear H;obtain ⟨ay6,vY,arw⟩:=Kd.gq jH.out;subst arw;have arx:0<=(fP:Int):=of_decide_eq_true (by first|(with_reducible assumption)|assumption);have arz:fP < (mD.length:Int):=of_decide_eq_true (by first|(with_reducible assumption)|assumption);obtain ⟨aDy,ay7,aul⟩:=Kd.iZ (Kd.dH jH.out).2.2 fP arx arz;cases ay7;replace arx:=eq_true arx;replace arz:=eq_true arz;have p31:0<=(fP:Int):=of_decide_eq_true (by first|(with_reducible assumption)|assumption);have q31:(fP:Int) < ((mD.length:Int):Int):=of_decide_eq_true (by first|(with_reducible assumption)|assumption);obtain ⟨rF,aEs,avE,avF,ay8,aEt,avG⟩:=Kd.ab1 jH.out (by omega)
                    (first|cases avE|(injection avE with ea_ en_ ec_;(first|subst ea_|(injection ea_ with ea_;subst ea_));subst ec_;clear en_))
                    have arA:=aj.mk avF;have aEu:=aj.mk avG;clear avF ay8 avG
                    (first|simp only [add_plain] at aul|skip)
                    obtain ⟨aBd,aBe⟩:=Kd.wF 0 jH.out (fP:Int) p31 q31;replace p31:=eq_true p31;replace q31:=eq_true q31;have abA:=Kd.yB jH.out (fP:Int) (wrap64 ((rd mD fP)+1));go_wp2_with (first|((with_reducible refine xK (t:=2) (p:=87) rfl ?_);(try (rw [oW wr];generalize hq_:World.drewN wr _=wr;obtain ⟨jH,dR,HB⟩:=zA3 (Kd.acs hq_ jH.out) (Kd.acs hq_ dR.out) (acu hq_ HB.out);(try (have abA:=Kd.yB jH.out (fP:Int) (wrap64 ((rd mD fP)+1))))));refine wG (t:=2) (p:=87) (v := ?apP) (w1:=(wr.setCell ⟨rF,(fP:Int).toNat,none⟩ (.int .i64 (wrap64 ((rd mD fP)+1))))) ?hg ?ho ?hn ?hr ?_;(case ho=>rfl);(case hg=>rfl);(case hn=>rfl);(case hr=>first|(go_simp;done)|(go_simp;rfl));intro w36 hw;have hg:wr.grownBy w36 (some rF):=(by rw [hw];exact abA.2);have hp_:Kd.R (Kd.int .i64) 2 w36 w.heap.size (fun k_=>some k_≠(.slice agV lV.length yg:Value).ownBlock) (.slice (some ⟨rF,0,none⟩) mD.length vY) aiY:=(by rw [hw,aoD.out];exact abA.1);clear abA;obtain ⟨jH,dR,HB⟩:=zA3 hp_ (Kd.sQ (v:=(.slice (some ⟨rF,0,none⟩) mD.length vY)) (v1:=(.slice (some ⟨rF,0,none⟩) mD.length vY)) (ok:=(fun _=>True)) (by (with_reducible repeat (first|apply Kd.aK|apply Kd.aQ|apply Kd.aW));exact Kd.dU dR.out (fun _ hk=>⟨trivial,hk⟩)) hg (.inl rfl)) ((by rw [hw];exact sV (HB.out) arA.out:Below w.heap.size w w36));clear hg hw hp_;have p33:0<=(fP:Int):=of_decide_eq_true (by first|(with_reducible assumption)|assumption);have q33:(fP:Int) < ((lV.length:Int):Int):=of_decide_eq_true (by first|(with_reducible assumption)|assumption);obtain ⟨xG,arB,adh,afC,alI,avH,afD⟩:=Kd.ab1 dR.out (by omega);(first|cases adh|(injection adh with ea_ en_ ec_;(first|subst ea_|(injection ea_ with ea_;subst ea_));subst ec_;clear en_));have alJ:=aj.mk afC;have avI:=aj.mk afD;clear afC alI afD;obtain ⟨apQ,apR⟩:=Kd.wF 0 dR.out (fP:Int) p33 q33;replace p33:=eq_true p33;replace q33:=eq_true q33;have n_:=aj.mk (Kd.dU (ok':=(fun k_=>some k_≠(.slice (some ⟨rF,0,none⟩) mD.length vY:Value).ownBlock)) dR.out (fun k_ hk=>hk.2));clear dR;have dR:=n_;clear n_;obtain ⟨ahZ,ah0⟩:=Kd.wF 0 dR.out (fP:Int) (of_decide_eq_true (by first|(with_reducible assumption)|assumption)) (of_decide_eq_true (by first|(with_reducible assumption)|assumption));have aao:=Kd.yB dR.out (fP:Int) (-1))|((with_reducible refine xK (t:=2) (p:=90) rfl ?_);(try (rw [oW w36];generalize hq_:World.drewN w36 _=w36;obtain ⟨jH,dR,HB⟩:=zA3 (Kd.acs hq_ jH.out) (Kd.acs hq_ dR.out) (acu hq_ HB.out);(try (have n_:=aj.mk (Kd.dU (ok':=(fun k_=>some k_≠(.slice (some ⟨rF,0,none⟩) mD.length vY:Value).ownBlock)) dR.out (fun k_ hk=>hk.2));clear dR;have dR:=n_;clear n_));(try (obtain ⟨ahZ,ah0⟩:=Kd.wF 0 dR.out (fP:Int) (of_decide_eq_true (by first|(with_reducible assumption)|assumption)) (of_decide_eq_true (by first|(with_reducible assumption)|assumption))));(try (have aao:=Kd.yB dR.out (fP:Int) (-1)))));refine wG (t:=2) (p:=90) (v := ?apS) (w1:=(w36.setCell ⟨xG,(fP:Int).toNat,none⟩ (.int .i64 (-1)))) ?hg ?ho ?hn ?hr ?_;(case ho=>rfl);(case hg=>rfl);(case hn=>rfl);(case hr=>first|(go_simp;done)|(go_simp;rfl));intro w38 hw;have hg:w36.grownBy w38 (some xG):=(by rw [hw];exact aao.2);have hp_:Kd.R (Kd.int .i64) 2 w38 w.heap.size (fun k_=>some k_≠(.slice (some ⟨rF,0,none⟩) mD.length vY:Value).ownBlock) (.slice (some ⟨xG,0,none⟩) lV.length yg) alH:=(by rw [hw,aoE.out];exact aao.1);clear aao;obtain ⟨jH,dR,HB⟩:=zA3 (Kd.sQ (v:=(.slice (some ⟨xG,0,none⟩) lV.length yg)) (v1:=(.slice (some ⟨xG,0,none⟩) lV.length yg)) (ok:=(fun _=>True)) (by (with_reducible repeat (first|apply Kd.aK|apply Kd.aQ|apply Kd.aW));exact Kd.dU jH.out (fun _ hk=>⟨trivial,hk⟩)) hg (.inl rfl)) hp_ ((by rw [hw];exact sV (HB.out) alJ.out:Below w.heap.size w w38));clear hg hw hp_));repeat (go_quiet (first|((with_reducible refine xK (t:=2) (p:=87) rfl ?_);(try (rw [oW wr];generalize hq_:World.drewN wr _=wr;obtain ⟨jH,dR,HB⟩:=zA3 (Kd.acs hq_ jH.out) (Kd.acs hq_ dR.out) (acu hq_ HB.out);(try (have abA:=Kd.yB jH.out (fP:Int) (wrap64 ((rd mD fP)+1))))));refine wG (t:=2) (p:=87) (v := ?apP) (w1:=(wr.setCell ⟨rF,(fP:Int).toNat,none⟩ (.int .i64 (wrap64 ((rd mD fP)+1))))) ?hg ?ho ?hn ?hr ?_;(case ho=>rfl);(case hg=>rfl);(case hn=>rfl);(case hr=>first|(go_simp;done)|(go_simp;rfl));intro w36 hw;have hg:wr.grownBy w36 (some rF):=(by rw [hw];exact abA.2);have hp_:Kd.R (Kd.int .i64) 2 w36 w.heap.size (fun k_=>some k_≠(.slice agV lV.length yg:Value).ownBlock) (.slice (some ⟨rF,0,none⟩) mD.length vY) aiY:=(by rw [hw,aoD.out];exact abA.1);clear abA;obtain ⟨jH,dR,HB⟩:=zA3 hp_ (Kd.sQ (v:=(.slice (some ⟨rF,0,none⟩) mD.length vY)) (v1:=(.slice (some ⟨rF,0,none⟩) mD.length vY)) (ok:=(fun _=>True)) (by (with_reducible repeat (first|apply Kd.aK|apply Kd.aQ|apply Kd.aW));exact Kd.dU dR.out (fun _ hk=>⟨trivial,hk⟩)) hg (.inl rfl)) ((by rw [hw];exact sV (HB.out) arA.out:Below w.heap.size w w36));clear hg hw hp_;have p33:0<=(fP:Int):=of_decide_eq_true (by first|(with_reducible assumption)|assumption);have q33:(fP:Int) < ((lV.length:Int):Int):=of_decide_eq_true (by first|(with_reducible assumption)|assumption);obtain ⟨xG,arB,adh,afC,alI,avH,afD⟩:=Kd.ab1 dR.out (by omega);(first|cases adh|(injection adh with ea_ en_ ec_;(first|subst ea_|(injection ea_ with ea_;subst ea_));subst ec_;clear en_));have alJ:=aj.mk afC;have avI:=aj.mk afD;clear afC alI afD;obtain ⟨apQ,apR⟩:=Kd.wF 0 dR.out (fP:Int) p33 q33;replace p33:=eq_true p33;replace q33:=eq_true q33;have n_:=aj.mk (Kd.dU (ok':=(fun k_=>some k_≠(.slice (some ⟨rF,0,none⟩) mD.length vY:Value).ownBlock)) dR.out (fun k_ hk=>hk.2));clear dR;have dR:=n_;clear n_;obtain ⟨ahZ,ah0⟩:=Kd.wF 0 dR.out (fP:Int) (of_decide_eq_true (by first|(with_reducible assumption)|assumption)) (of_decide_eq_true (by first|(with_reducible assumption)|assumption));have aao:=Kd.yB dR.out (fP:Int) (-1))|((with_reducible refine xK (t:=2) (p:=90) rfl ?_);(try (rw [oW w36];generalize hq_:World.drewN w36 _=w36;obtain ⟨jH,dR,HB⟩:=zA3 (Kd.acs hq_ jH.out) (Kd.acs hq_ dR.out) (acu hq_ HB.out);(try (have n_:=aj.mk (Kd.dU (ok':=(fun k_=>some k_≠(.slice (some ⟨rF,0,none⟩) mD.length vY:Value).ownBlock)) dR.out (fun k_ hk=>hk.2));clear dR;have dR:=n_;clear n_));(try (obtain ⟨ahZ,ah0⟩:=Kd.wF 0 dR.out (fP:Int) (of_decide_eq_true (by first|(with_reducible assumption)|assumption)) (of_decide_eq_true (by first|(with_reducible assumption)|assumption))));(try (have aao:=Kd.yB dR.out (fP:Int) (-1)))));refine wG (t:=2) (p:=90) (v := ?apS) (w1:=(w36.setCell ⟨xG,(fP:Int).toNat,none⟩ (.int .i64 (-1)))) ?hg ?ho ?hn ?hr ?_;(case ho=>rfl);(case hg=>rfl);(case hn=>rfl);(case hr=>first|(go_simp;done)|(go_simp;rfl));intro w38 hw;have hg:w36.grownBy w38 (some xG):=(by rw [hw];exact aao.2);have hp_:Kd.R (Kd.int .i64) 2 w38 w.heap.size (fun k_=>some k_≠(.slice (some ⟨rF,0,none⟩) mD.length vY:Value).ownBlock) (.slice (some ⟨xG,0,none⟩) lV.length yg) alH:=(by rw [hw,aoE.out];exact aao.1);clear aao;obtain ⟨jH,dR,HB⟩:=zA3 (Kd.sQ (v:=(.slice (some ⟨xG,0,none⟩) lV.length yg)) (v1:=(.slice (some ⟨xG,0,none⟩) lV.length yg)) (ok:=(fun _=>True)) (by (with_reducible repeat (first|apply Kd.aK|apply Kd.aQ|apply Kd.aW));exact Kd.dU jH.out (fun _ hk=>⟨trivial,hk⟩)) hg (.inl rfl)) hp_ ((by rw [hw];exact sV (HB.out) alJ.out:Below w.heap.size w w38));clear hg hw hp_));try go_wp2_with (first|((with_reducible refine xK (t:=2) (p:=87) rfl ?_);(try (rw [oW wr];generalize hq_:World.drewN wr _=wr;obtain ⟨jH,dR,HB⟩:=zA3 (Kd.acs hq_ jH.out) (Kd.acs hq_ dR.out) (acu hq_ HB.out);(try (have abA:=Kd.yB jH.out (fP:Int) (wrap64 ((rd mD fP)+1))))));refine wG (t:=2) (p:=87) (v := ?apP) (w1:=(wr.setCell ⟨rF,(fP:Int).toNat,none⟩ (.int .i64 (wrap64 ((rd mD fP)+1))))) ?hg ?ho ?hn ?hr ?_;(case ho=>rfl);(case hg=>rfl);(case hn=>rfl);(case hr=>first|(go_simp;done)|(go_simp;rfl));intro w36 hw;have hg:wr.grownBy w36 (some rF):=(by rw [hw];exact abA.2);have hp_:Kd.R (Kd.int .i64) 2 w36 w.heap.size (fun k_=>some k_≠(.slice agV lV.length yg:Value).ownBlock) (.slice (some ⟨rF,0,none⟩) mD.length vY) aiY:=(by rw [hw,aoD.out];exact abA.1);clear abA;obtain ⟨jH,dR,HB⟩:=zA3 hp_ (Kd.sQ (v:=(.slice (some ⟨rF,0,none⟩) mD.length vY)) (v1:=(.slice (some ⟨rF,0,none⟩) mD.length vY)) (ok:=(fun _=>True)) (by (with_reducible repeat (first|apply Kd.aK|apply Kd.aQ|apply Kd.aW));exact Kd.dU dR.out (fun _ hk=>⟨trivial,hk⟩)) hg (.inl rfl)) ((by rw [hw];exact sV (HB.out) arA.out:Below w.heap.size w w36));clear hg hw hp_;have p33:0<=(fP:Int):=of_decide_eq_true (by first|(with_reducible assumption)|assumption);have q33:(fP:Int) < ((lV.length:Int):Int):=of_decide_eq_true (by first|(with_reducible assumption)|assumption);obtain ⟨xG,arB,adh,afC,alI,avH,afD⟩:=Kd.ab1 dR.out (by omega);(first|cases adh|(injection adh with ea_ en_ ec_;(first|subst ea_|(injection ea_ with ea_;subst ea_));subst ec_;clear en_));have alJ:=aj.mk afC;have avI:=aj.mk afD;clear afC alI afD;obtain ⟨apQ,apR⟩:=Kd.wF 0 dR.out (fP:Int) p33 q33;replace p33:=eq_true p33;replace q33:=eq_true q33;have n_:=aj.mk (Kd.dU (ok':=(fun k_=>some k_≠(.slice (some ⟨rF,0,none⟩) mD.length vY:Value).ownBlock)) dR.out (fun k_ hk=>hk.2));clear dR;have dR:=n_;clear n_;obtain ⟨ahZ,ah0⟩:=Kd.wF 0 dR.out (fP:Int) (of_decide_eq_true (by first|(with_reducible assumption)|assumption)) (of_decide_eq_true (by first|(with_reducible assumption)|assumption));have aao:=Kd.yB dR.out (fP:Int) (-1))|((with_reducible refine xK (t:=2) (p:=90) rfl ?_);(try (rw [oW w36];generalize hq_:World.drewN w36 _=w36;obtain ⟨jH,dR,HB⟩:=zA3 (Kd.acs hq_ jH.out) (Kd.acs hq_ dR.out) (acu hq_ HB.out);(try (have n_:=aj.mk (Kd.dU (ok':=(fun k_=>some k_≠(.slice (some ⟨rF,0,none⟩) mD.length vY:Value).ownBlock)) dR.out (fun k_ hk=>hk.2));clear dR;have dR:=n_;clear n_));(try (obtain ⟨ahZ,ah0⟩:=Kd.wF 0 dR.out (fP:Int) (of_decide_eq_true (by first|(with_reducible assumption)|assumption)) (of_decide_eq_true (by first|(with_reducible assumption)|assumption))));(try (have aao:=Kd.yB dR.out (fP:Int) (-1)))));refine wG (t:=2) (p:=90) (v := ?apS) (w1:=(w36.setCell ⟨xG,(fP:Int).toNat,none⟩ (.int .i64 (-1)))) ?hg ?ho ?hn ?hr ?_;(case ho=>rfl);(case hg=>rfl);(case hn=>rfl);(case hr=>first|(go_simp;done)|(go_simp;rfl));intro w38 hw;have hg:w36.grownBy w38 (some xG):=(by rw [hw];exact aao.2);have hp_:Kd.R (Kd.int .i64) 2 w38 w.heap.size (fun k_=>some k_≠(.slice (some ⟨rF,0,none⟩) mD.length vY:Value).ownBlock) (.slice (some ⟨xG,0,none⟩) lV.length yg) alH:=(by rw [hw,aoE.out];exact aao.1);clear aao;obtain ⟨jH,dR,HB⟩:=zA3 (Kd.sQ (v:=(.slice (some ⟨xG,0,none⟩) lV.length yg)) (v1:=(.slice (some ⟨xG,0,none⟩) lV.length yg)) (ok:=(fun _=>True)) (by (with_reducible repeat (first|apply Kd.aK|apply Kd.aQ|apply Kd.aW));exact Kd.dU jH.out (fun _ hk=>⟨trivial,hk⟩)) hg (.inl rfl)) hp_ ((by rw [hw];exact sV (HB.out) alJ.out:Below w.heap.size w w38));clear hg hw hp_)))
                    go_roundg k5
                    case measure=>have:=HJ1.out;have:=HK2.out;have:=HK3.out;have:=HK4.out;have:=HK5.out;omega
                    case rel=>exact ⟨(aiY),(alH),(wrap64 (afB - 1)),zT,H',⟨by have:=HJ1.out;have:=HK2.out;have:=HK3.out;have:=HK4.out;have:=HK5.out;omega⟩,⟨by (with_reducible repeat (first|apply Kd.aK|apply Kd.aQ|apply Kd.aW));exact Kd.dU jH.out (fun _ hk=>hk.2)⟩,⟨by (with_reducible repeat (first|apply Kd.aK|apply Kd.aQ|apply Kd.aW));exact dR.out⟩,⟨zB⟩⟩
                   ·rw [if_neg c32] at H;exact absurd H (by simp)
                  ·rw [if_neg c30] at H;exact absurd H (by simp)
                 ·rw [if_neg c29] at H;exact absurd H (by simp)
             ·rw [if_neg c21] at H;have ad6:=decide_eq_false c21;clear c21;simp only [Option.some.injEq,Prod.mk.injEq] at H;obtain ⟨rfl,rfl⟩:=H;go_wp2;repeat (go_quiet (fail);try go_wp2)
              go_ret2;exact ⟨_,zS,by (with_reducible repeat (first|apply Kd.aK|apply Kd.aQ|apply Kd.aW));exact Kd.dU jH.out (fun _ hk=>trivial),zB⟩
mutual
def cO.j0:Nat->Int->Int->Int->Bool->Option ((List (lY)) × Int)
 | 0,_,_,_,_=>none
 | k+1,x0,x1,x2,x29=>if x29=true then (some (([]:List (lY)),6)) else (cO.l0 k x0 x1 x2 ([]:List (lY)) x2 0)
def cO.l0:Nat->Int->Int->Int->List (lY)->Int->Int->Option ((List (lY)) × Int)
 | 0,_,_,_,_,_,_=>none
 | k+1,x0,x1,x2,x8,x30,x31=>if x31 < x30 then ((bZ.f k x0 x1 x2 x31).bind fun att=>((aG.f k att.2).bind fun aoF=>(if aoF.2=0 then (if x8.length < 4398046511104 then (cO.l0 k x0 x1 x2 (x8 ++ [(⟨att.1,aoF.1⟩:lY)]) x30 (wrap64 (x31+1))) else (none)) else (some (([]:List (lY)),aoF.2))))) else (some (x8,0))
end
def cO.f (k:Nat) (a0 a1 a2:Int):Option ((List (lY)) × Int):=if a0 < 0 then (cO.j0 k a0 a1 a2 true) else (if a0 > 2 then (cO.j0 k a0 a1 a2 true) else ((iU.f a1).bind fun arC=>(if arC=true then ((iU.f a2).bind fun aoG=>(cO.j0 k a0 a1 a2 (!aoG))) else (cO.j0 k a0 a1 a2 true))))
theorem cO.calls (k:Nat) (a0 a1 a2:Int) (r1:List (lY)) (r2:Int) (w:World) (h:cO.f k a0 a1 a2=some (r1,r2)) :
  Calls Tryz.prog 93 #[.int .i64 a0,.int .i64 a1,.int .i64 a2] w fun e w'=>∃ v0_:Value,e = .returned (.tuple #[v0_,.int .i64 r2])/\Kd.S aaA 138 w' w.heap.size (fun _=>True) v0_ r1/\Below w.heap.size w w':=by
 have aDz:=Tryz.underlying138;have HB:=aj.mk (Below.refl w.heap.size w);have H:=h;clear h;unfold cO.f at H;have HC4:=aj.mk H;clear H;go_enter Tryz.func93,Tryz.ntmps93;go_upto_region 1 with (fail);go_cut [29] (fun v29 wc=>∃ (kq:Nat) (akF:Bool),v29 = .bool akF/\aj (cO.j0 kq a0 a1 a2 akF=some (r1,r2))/\aj (kq<=k)/\aj (Below w.heap.size w wc))
 case first =>
  have H:=HC4.out;clear HC4;by_cases c5:a0 < 0
  ·rw [if_pos c5] at H;have iy:=decide_eq_true c5;clear c5
   (first|rw [iy]|(simp only [cZ,dD];rw [iy])|skip)
   have H':=aj.mk H;clear H;go_wp2;go_meet
   case rel=>exact ⟨_,(true),zT,H',⟨by first|omega|exact Nat.le_refl _⟩,⟨zB⟩⟩
  ·rw [if_neg c5] at H;have iy:=decide_eq_false c5;clear c5
   (first|rw [iy]|(simp only [cZ,dD];rw [iy])|skip)
   by_cases c6:a0 > 2
   ·rw [if_pos c6] at H;have iF:=decide_eq_true c6;clear c6;have H':=aj.mk H;clear H;go_wp2;go_meet
    case rel=>exact ⟨_,(true),zT,H',⟨by first|omega|exact Nat.le_refl _⟩,⟨zB⟩⟩
   ·rw [if_neg c6] at H;have iF:=decide_eq_false c6;clear c6;replace H:=zO H;obtain ⟨arC,A7,H⟩:=H;try dsimp only at H
    by_cases c8:arC=true
    ·subst c8;rw [if_pos rfl] at H;(try dsimp only at H);replace H:=zO H;obtain ⟨aoG,A9,H⟩:=H;try dsimp only at H
     have H':=aj.mk H;clear H;go_wp2_with (first|(go_at_call 113;(with_reducible refine (iU.calls a1 true _ A7.out).mono ?_);rintro e w' ⟨rfl,⟨nd,rfl⟩⟩)|(go_at_call 113;(with_reducible refine (iU.calls a2 aoG _ A9.out).mono ?_);rintro e w' ⟨rfl,⟨nd,rfl⟩⟩));go_meet
     case rel=>exact ⟨_,(!aoG),zT,H',⟨by first|omega|exact Nat.le_refl _⟩,⟨zB⟩⟩
    ·replace c8:=Bool.eq_false_iff.mpr c8;subst c8;rw [if_neg (show ¬ (false=true) by decide)] at H;(try dsimp only at H);have H':=aj.mk H;clear H;go_wp2_with (first|(go_at_call 113;(with_reducible refine (iU.calls a1 false _ A7.out).mono ?_);rintro e w' ⟨rfl,⟨nd,rfl⟩⟩));go_meet
     case rel=>exact ⟨_,(true),zT,H',⟨by first|omega|exact Nat.le_refl _⟩,⟨zB⟩⟩
 case rest =>
  clear HC4;obtain ⟨kq,akF,rfl,HA,HJ3,HB⟩:=hcut;cases kq with
  | zero=>exact absurd HA.out (by simp [cO.j0])
  | succ kj3 =>
   have H:=HA.out;clear HA;simp only [cO.j0] at H;by_cases c10:akF=true
   ·subst c10;rw [if_pos rfl] at H;(try dsimp only at H);simp only [Option.some.injEq,Prod.mk.injEq] at H;obtain ⟨rfl,rfl⟩:=H;go_wp2;go_ret2;exact ⟨_,zS,by first|exact Kd.pW _ _ _ _ _|exact Kd.qB _ _ _ _ _|exact Kd.oL _ _ _ _ _|exact Kd.qC _ _ _ _ _|exact Kd.jY _ _ _ _ _,zB⟩
   ·replace c10:=Bool.eq_false_iff.mpr c10;subst c10;rw [if_neg (show ¬ (false=true) by decide)] at H;(try dsimp only at H);have H':=aj.mk H;clear H;go_wp2;go_loopg [8,31] kj3 (fun kq v8 v31 w'=>∃ (lU:List (lY)) (aa3:Int),v31 = .int .i64 aa3/\aj (cO.l0 kq a0 a1 a2 lU a2 aa3=some (r1,r2))/\aj (kq<=kj3)/\aj (Kd.S aaA 138 w' w.heap.size (fun _=>True) v8 lU)/\aj (Below w.heap.size w w'))
    case atStart=>exact ⟨(([]:List (lY))),(0),zT,H',⟨Nat.le_refl _⟩,⟨by first|exact Kd.pW _ _ _ _ _|exact Kd.qB _ _ _ _ _|exact Kd.oL _ _ _ _ _|exact Kd.qC _ _ _ _ _|exact Kd.jY _ _ _ _ _⟩,⟨zB⟩⟩
    case round =>
     clear H';obtain ⟨lU,aa3,rfl,HA,HK2,dR,HB⟩:=hrel;cases gk with
     | zero=>exact absurd HA.out (by simp [cO.l0])
     | succ k2 =>
      have H:=HA.out;clear HA;simp only [cO.l0] at H;by_cases c11:aa3 < a2
      ·rw [if_pos c11] at H;have iV:=decide_eq_true c11;clear c11;replace H:=zO H;obtain ⟨⟨aiZ,ad7⟩,A12,H⟩:=H;try dsimp only at H
       replace H:=zO H;obtain ⟨⟨ag0,ag1⟩,A13,H⟩:=H;try dsimp only at H
       by_cases c14:ag1=0
       ·rw [if_pos c14] at H;have acR:(ag1 == 0)=true:=beq_iff_eq.mpr c14;have aoH:(ag1 != 0)=false:=bne_eq_false_iff_eq.mpr c14;clear c14;by_cases c15:lU.length < 4398046511104
        ·rw [if_pos c15] at H;have aoq:=aj.mk c15;clear c15;obtain ⟨avJ,ah1⟩:∃ y_:List (lY),y_=(lU ++ [(⟨aiZ,ag0⟩:lY)]):=⟨_,rfl⟩;replace H:(cO.l0 k2 a0 a1 a2 avJ a2 (wrap64 (aa3+1)))=some (r1,r2):=(by first|(rw [ah1];with_reducible exact H)|(have H2_:=(Option.bind_some _ _).symm.trans H;rw [ah1];with_reducible exact H2_)|(have H2_:=(Option.bind_some _ _).symm.trans H;with_reducible exact H2_)|with_reducible exact H|(rw [ah1];exact H)|exact H);have ax6:=aj.mk ah1;clear ah1;have H':=aj.mk H;clear H;go_wp2_with (first|((with_reducible refine ay (f:=114) rfl ?_);refine aH (some 39) rfl rfl Tryz.func114 (by kernel_rfl) rfl #[.int .i64 a0,.int .i64 a1,.int .i64 a2,.int .i64 aa3] rfl zL ?_;(with_reducible refine (bZ.calls k2 a0 a1 a2 aa3 aiZ ad7 _ A12.out).mono ?_);rintro e w16 ⟨ay9,rfl,ho0,hb⟩;refine ⟨_,rfl,?_⟩;obtain ⟨dR,uO,HB⟩:=zA3 (Kd.adG (by (with_reducible repeat (first|apply Kd.aaO|apply Kd.aaP|apply Kd.acv));exact dR.out) (Kd.jw ho0) hb) (Kd.fQ ho0 (bT zB)) (ak zB hb);(try clear hb);(try clear ho0);obtain ⟨aoI,aoJ,aza⟩:=Kd.gq uO.out;subst aza)|((with_reducible refine ay (f:=115) rfl ?_);refine aH (some 44) rfl rfl Tryz.func115 (by kernel_rfl) rfl #[.slice aoI ad7.length aoJ] rfl zL ?_;(with_reducible refine (aG.calls k2 _ _ ad7 ag0 ag1 _ ?iW ?iY A13.out).mono ?_);(case iW=>repeat (first|exact (Kd.dH uO.out).2.2|(with_reducible refine Kd.jo ?_ _)|(with_reducible refine Kd.jO ?_ _)|(with_reducible refine Kd.lq ?_)));(case iY=>exact (Kd.dH uO.out).2.1);rintro e w18 ⟨azb,rfl,ho0,hb⟩;refine ⟨_,rfl,?_⟩;obtain ⟨dR,uO,akG,HB⟩:=zA4 (Kd.adG (by (with_reducible repeat (first|apply Kd.aaO|apply Kd.aaP|apply Kd.acv));exact dR.out) (Kd.jw ho0) hb) (Kd.iQ (by (with_reducible repeat (first|apply Kd.aK|apply Kd.aQ|apply Kd.aW));exact uO.out) (Kd.jw ho0) hb) (Kd.fQ (Kd.ku ho0 (Kd.lS (by (with_reducible repeat (first|apply Kd.aK|apply Kd.aQ|apply Kd.aW));exact uO.out))) (bT zB)) (ak zB hb);(try clear hb);(try clear ho0);obtain ⟨alK,alL,alM⟩:=Kd.gq akG.out;subst alM)|((with_reducible refine jQ (b := .append) (xs := #[.tmp 50,.tmp 54]) rfl ?_);at_builtin;refine Kd.aqe aaA (w0:=w) w.heap.size rfl (.tmp 50) (.tmp 54) 39 138 (.agg #[(.int .i64 0),(.slice none 0 0)]) 32 rfl Tryz.underlying39 atP rfl (by decide) (by omega) u8 lU (⟨aiZ,ag0⟩:lY) [.int .i64 aiZ,.slice alK ag0.length alL] (fun k_=>some k_≠(.slice aoI ad7.length aoJ:Value).ownBlock) (fun k_=>some k_=(.slice alK ag0.length alL:Value).ownBlock) rfl rfl ?aP (fun k_ hk_=>((Kd.dU (ok':=fun k_=>((fun k_=>some k_≠(.slice aoI ad7.length aoJ:Value).ownBlock)) k_/\some k_≠(u8:Value).ownBlock) (Kd.akR (akG.out) (Kd.aiG dR.out) (by decide)) (fun k_ hk=>⟨hk.1.2,hk.2⟩))).1 k_ hk_.symm) ?aF ?aO ?aB ?aS ?aL ?_;(case aP=>exact akX _ _ _ (⟨aiZ,ag0⟩:lY) (Kd.dU (Kd.amW rfl (Kd.dU (ok':=fun k_=>((fun k_=>some k_≠(.slice aoI ad7.length aoJ:Value).ownBlock)) k_/\some k_≠(u8:Value).ownBlock) (Kd.akR (akG.out) (Kd.aiG dR.out) (by decide)) (fun k_ hk=>⟨hk.1.2,hk.2⟩))) (fun _ h_=>h_)));(case aB=>exact zB);(case aF=>exact (fun k_ hk=>Kd.fresh' (Kd.lS (by (with_reducible repeat (first|apply Kd.aK|apply Kd.aQ|apply Kd.aW));exact uO.out)) k_ hk));(case aO=>exact (by (with_reducible repeat (first|apply Kd.aaO|apply Kd.aaP|apply Kd.acv));exact Kd.apo dR.out (fun k_ hk=>⟨hk.1.2,fun e_=>hk.2 e_⟩)));(case aS=>exact (bT zB));(case aL=>have:=aoq.out;omega);intro aEv w20 ho hb hg hat;rw [<- ax6.out] at ho;obtain ⟨uO,HB,ax7⟩:=zA3 (Kd.atL (by (with_reducible repeat (first|apply Kd.aK|apply Kd.aQ|apply Kd.aW));exact uO.out) (Kd.aiG (by (with_reducible repeat (first|apply Kd.aaO|apply Kd.aaP|apply Kd.acv));exact dR.out)) (by decide) hg) hb ho;clear ho hb hg hat));go_roundg k2
         case measure=>have:=HJ3.out;have:=HK2.out;omega
         case rel=>exact ⟨(avJ),(wrap64 (aa3+1)),zT,H',⟨by have:=HJ3.out;have:=HK2.out;omega⟩,⟨by (with_reducible repeat (first|apply Kd.aaO|apply Kd.aaP|apply Kd.acv));exact Kd.apo ax7.out (fun _ hk=>trivial)⟩,⟨zB⟩⟩
        ·rw [if_neg c15] at H;exact absurd H (by simp)
       ·rw [if_neg c14] at H;have acR:(ag1 == 0)=false:=beq_eq_false_iff_ne.mpr c14;have aoH:(ag1 != 0)=true:=bne_iff_ne.mpr c14;simp only [Option.some.injEq,Prod.mk.injEq] at H;obtain ⟨rfl,rfl⟩:=H;go_wp2_with (first|((with_reducible refine ay (f:=114) rfl ?_);refine aH (some 39) rfl rfl Tryz.func114 (by kernel_rfl) rfl #[.int .i64 a0,.int .i64 a1,.int .i64 a2,.int .i64 aa3] rfl zL ?_;(with_reducible refine (bZ.calls k2 a0 a1 a2 aa3 aiZ ad7 _ A12.out).mono ?_);rintro e w21 ⟨ay9,rfl,ho0,hb⟩;refine ⟨_,rfl,?_⟩;obtain ⟨dR,uO,HB⟩:=zA3 (Kd.adG (by (with_reducible repeat (first|apply Kd.aaO|apply Kd.aaP|apply Kd.acv));exact dR.out) (Kd.jw ho0) hb) (Kd.fQ ho0 (bT zB)) (ak zB hb);(try clear hb);(try clear ho0);obtain ⟨agV,yg,ars⟩:=Kd.gq uO.out;subst ars)|((with_reducible refine ay (f:=115) rfl ?_);refine aH (some 44) rfl rfl Tryz.func115 (by kernel_rfl) rfl #[.slice agV ad7.length yg] rfl zL ?_;(with_reducible refine (aG.calls k2 _ _ ad7 ag0 ag1 _ ?iW ?iY A13.out).mono ?_);(case iW=>repeat (first|exact (Kd.dH uO.out).2.2|(with_reducible refine Kd.jo ?_ _)|(with_reducible refine Kd.jO ?_ _)|(with_reducible refine Kd.lq ?_)));(case iY=>exact (Kd.dH uO.out).2.1);rintro e w23 ⟨azb,rfl,ho0,hb⟩;refine ⟨_,rfl,?_⟩;obtain ⟨dR,uO,akG,HB⟩:=zA4 (Kd.adG (by (with_reducible repeat (first|apply Kd.aaO|apply Kd.aaP|apply Kd.acv));exact dR.out) (Kd.jw ho0) hb) (Kd.iQ (by (with_reducible repeat (first|apply Kd.aK|apply Kd.aQ|apply Kd.aW));exact uO.out) (Kd.jw ho0) hb) (Kd.fQ (Kd.ku ho0 (Kd.lS (by (with_reducible repeat (first|apply Kd.aK|apply Kd.aQ|apply Kd.aW));exact uO.out))) (bT zB)) (ak zB hb);(try clear hb);(try clear ho0)));go_ret2;exact ⟨_,zS,by first|exact Kd.pW _ _ _ _ _|exact Kd.qB _ _ _ _ _|exact Kd.oL _ _ _ _ _|exact Kd.qC _ _ _ _ _|exact Kd.jY _ _ _ _ _,zB⟩
      ·rw [if_neg c11] at H;have iV:=decide_eq_false c11;clear c11;simp only [Option.some.injEq,Prod.mk.injEq] at H;obtain ⟨rfl,rfl⟩:=H;go_wp2;go_ret2;exact ⟨_,zS,by (with_reducible repeat (first|apply Kd.aaO|apply Kd.aaP|apply Kd.acv));exact dR.out,zB⟩
mutual
def dY.j0:Nat->Int->Option (Int)
 | 0,_=>none
 | k+1,x0=>(dZ.f k x0 762123384786).bind fun abB=>(dY.l0 k abB (wrap64 (x0 - (wrap64 (abB*762123384786)))) 1099511627776 0 1099511627776 1)
def dY.l0:Nat->Int->Int->Int->Int->Int->Int->Option (Int)
 | 0,_,_,_,_,_,_=>none
 | k+1,x3,x4,x5,x6,x7,x8=>if x8<=16 then ((aX.f k x7 x4 (wrap64 (x8*1099511627776))).bind fun acw=>(if (Int.tmod x8 2)=1 then (dY.l0 k x3 x4 x5 (wrap64 (x6+acw)) acw (wrap64 (x8+1))) else (dY.l0 k x3 x4 (wrap64 (x5+acw)) x6 acw (wrap64 (x8+1))))) else ((aJ.f k (wrap64 (x5 - x6)) x3).bind fun arD=>(some arD))
end
def dY.f (k:Nat) (a0:Int):Option (Int):=if a0 < 0 then (dY.j0 k 0) else (dY.j0 k a0)
theorem dY.calls (k:Nat) (a0 r:Int) (w:World) (h:dY.f k a0=some r) :
  Calls Tryz.prog 145 #[.int .i64 a0] w fun e w'=>e = .returned (.int .i64 r)/\Below w.heap.size w w':=by
 have HB:=aj.mk (Below.refl w.heap.size w);have H:=h;clear h;unfold dY.f at H;have HC2:=aj.mk H;clear H;go_enter Tryz.func145,Tryz.ntmps145;go_upto_if 10 with (fail)
 go_cut [0] (fun v0 wc=>∃ (kq:Nat) (adi:Int),v0 = .int .i64 adi/\aj (dY.j0 kq adi=some r)/\aj (kq<=k)/\aj (Below w.heap.size w wc))
 case first =>
  have H:=HC2.out;clear HC2;by_cases c3:a0 < 0
  ·rw [if_pos c3] at H;have gI:=decide_eq_true c3;clear c3
   (first|rw [gI]|(simp only [cZ,dD];rw [gI])|skip)
   have H':=aj.mk H;clear H;go_wp2;go_meet
   case rel=>exact ⟨_,(0),zT,H',⟨by first|omega|exact Nat.le_refl _⟩,⟨zB⟩⟩
  ·rw [if_neg c3] at H;have gI:=decide_eq_false c3;clear c3
   (first|rw [gI]|(simp only [cZ,dD];rw [gI])|skip)
   have H':=aj.mk H;clear H;go_wp2;go_meet
   case rel=>exact ⟨_,(a0),zT,H',⟨by first|omega|exact Nat.le_refl _⟩,⟨zB⟩⟩
 case rest =>
  clear HC2;obtain ⟨kq,adi,rfl,HA,HJ1,HB⟩:=hcut;cases kq with
  | zero=>exact absurd HA.out (by simp [dY.j0])
  | succ kj1 =>
   have H:=HA.out;clear HA;simp only [dY.j0] at H;replace H:=zO H;obtain ⟨abB,A4,H⟩:=H;try dsimp only at H
   have H':=aj.mk H;clear H;go_wp2_with (first|((with_reducible refine ay (f:=144) rfl ?_);refine aH (some 12) rfl rfl Tryz.func144 (by kernel_rfl) rfl #[.int .i64 adi,.int .i64 762123384786] rfl zL ?_;(with_reducible refine (dZ.calls kj1 adi 762123384786 abB _ A4.out).mono ?_);rintro e w5 ⟨rfl,hb⟩;refine ⟨_,rfl,?_⟩;replace HB:=aj.mk (ak zB hb);(try clear hb)));go_loopg [5,6,7,8] kj1 (fun kq v5 v6 v7 v8 w'=>∃ (ng:Int) (yh:Int) (aaM:Int) (lU:Int),v5 = .int .i64 ng/\v6 = .int .i64 yh/\v7 = .int .i64 aaM/\v8 = .int .i64 lU/\aj (dY.l0 kq abB (wrap64 (adi - (wrap64 (abB*762123384786)))) ng yh aaM lU=some r)/\aj (kq<=kj1)/\aj (Below w.heap.size w w'))
   case atStart=>exact ⟨(1099511627776),(0),(1099511627776),(1),zT,zT,zT,zT,H',⟨Nat.le_refl _⟩,⟨zB⟩⟩
   case round =>
    clear H';obtain ⟨ng,yh,aaM,lU,rfl,rfl,rfl,rfl,HA,HK2,HB⟩:=hrel;cases gk with
    | zero=>exact absurd HA.out (by simp [dY.l0])
    | succ k2 =>
     have H:=HA.out;clear HA;simp only [dY.l0] at H;by_cases c6:lU<=16
     ·rw [if_pos c6] at H;have iF:=decide_eq_true c6;clear c6;replace H:=zO H;obtain ⟨acw,A7,H⟩:=H;try dsimp only at H
      by_cases c8:(Int.tmod lU 2)=1
      ·rw [if_pos c8] at H;have vS:((Int.tmod lU 2) == 1)=true:=beq_iff_eq.mpr c8;have ab4:((Int.tmod lU 2) != 1)=false:=bne_eq_false_iff_eq.mpr c8;clear c8;have H':=aj.mk H;clear H;go_wp2_with (first|((with_reducible refine ay (f:=118) rfl ?_);refine aH (some 25) rfl rfl Tryz.func118 (by kernel_rfl) rfl #[.int .i64 aaM,.int .i64 (wrap64 (adi - (wrap64 (abB*762123384786)))),.int .i64 (wrap64 (lU*1099511627776))] rfl zL ?_;(with_reducible refine (aX.calls k2 aaM (wrap64 (adi - (wrap64 (abB*762123384786)))) (wrap64 (lU*1099511627776)) acw _ A7.out).mono ?_);rintro e w9 ⟨rfl,hb⟩;refine ⟨_,rfl,?_⟩;replace HB:=aj.mk (ak zB hb);(try clear hb)));go_roundg k2
       case measure=>have:=HJ1.out;have:=HK2.out;omega
       case rel=>exact ⟨(ng),(wrap64 (yh+acw)),(acw),(wrap64 (lU+1)),zT,zT,zT,zT,H',⟨by have:=HJ1.out;have:=HK2.out;omega⟩,⟨zB⟩⟩
      ·rw [if_neg c8] at H;have vS:((Int.tmod lU 2) == 1)=false:=beq_eq_false_iff_ne.mpr c8;have ab4:((Int.tmod lU 2) != 1)=true:=bne_iff_ne.mpr c8;have H':=aj.mk H;clear H;go_wp2_with (first|((with_reducible refine ay (f:=118) rfl ?_);refine aH (some 25) rfl rfl Tryz.func118 (by kernel_rfl) rfl #[.int .i64 aaM,.int .i64 (wrap64 (adi - (wrap64 (abB*762123384786)))),.int .i64 (wrap64 (lU*1099511627776))] rfl zL ?_;(with_reducible refine (aX.calls k2 aaM (wrap64 (adi - (wrap64 (abB*762123384786)))) (wrap64 (lU*1099511627776)) acw _ A7.out).mono ?_);rintro e w10 ⟨rfl,hb⟩;refine ⟨_,rfl,?_⟩;replace HB:=aj.mk (ak zB hb);(try clear hb)));go_roundg k2
       case measure=>have:=HJ1.out;have:=HK2.out;omega
       case rel=>exact ⟨(wrap64 (ng+acw)),(yh),(acw),(wrap64 (lU+1)),zT,zT,zT,zT,H',⟨by have:=HJ1.out;have:=HK2.out;omega⟩,⟨zB⟩⟩
     ·rw [if_neg c6] at H;have iF:=decide_eq_false c6;clear c6;replace H:=zO H;obtain ⟨arD,A11,H⟩:=H;try dsimp only at H
      obtain rfl:=Option.some.inj H;go_wp2_with (first|((with_reducible refine ay (f:=101) rfl ?_);refine aH (some 39) rfl rfl Tryz.func101 (by kernel_rfl) rfl #[.int .i64 (wrap64 (ng - yh)),.int .i64 abB] rfl zL ?_;(with_reducible refine (aJ.calls k2 (wrap64 (ng - yh)) abB arD _ A11.out).mono ?_);rintro e w12 ⟨rfl,hb⟩;refine ⟨_,rfl,?_⟩;replace HB:=aj.mk (ak zB hb);(try clear hb)));go_ret;exact ⟨zS,zB⟩
def nC.f (k:Nat) (a0 a1:Int):Option (Int):=if a1 < 1 then (some 9223372036854775807) else (if a1 > 4194304 then (some 9223372036854775807) else (if a0 < (-16384) then (some 9223372036854775807) else (if a0 > 16384 then (some 9223372036854775807) else ((aX.f k (wrap64 ((wrap64 (a0*a0))*2147483648)) 1099511627776 (wrap64 (a1*a1))).bind fun arE=>(some arE)))))
theorem nC.calls (k:Nat) (a0 a1 r:Int) (w:World) (h:nC.f k a0 a1=some r) :
  Calls Tryz.prog 146 #[.int .i64 a0,.int .i64 a1] w fun e w'=>e = .returned (.int .i64 r)/\Below w.heap.size w w':=by
 have HB:=aj.mk (Below.refl w.heap.size w);have H:=h;clear h;unfold nC.f at H;by_cases c3:a1 < 1
 ·rw [if_pos c3] at H;have gI:=decide_eq_true c3;clear c3;obtain rfl:=Option.some.inj H;go_enter Tryz.func146,Tryz.ntmps146;go_wp2;go_ret;exact ⟨zS,zB⟩
 ·rw [if_neg c3] at H;have gI:=decide_eq_false c3;clear c3;by_cases c4:a1 > 4194304
  ·rw [if_pos c4] at H;have fG:=decide_eq_true c4;clear c4;obtain rfl:=Option.some.inj H;go_enter Tryz.func146,Tryz.ntmps146;go_wp2;go_ret;exact ⟨zS,zB⟩
  ·rw [if_neg c4] at H;have fG:=decide_eq_false c4;clear c4;by_cases c5:a0 < (-16384)
   ·rw [if_pos c5] at H;have iy:=decide_eq_true c5;clear c5;obtain rfl:=Option.some.inj H;go_enter Tryz.func146,Tryz.ntmps146;go_wp2;go_ret;exact ⟨zS,zB⟩
   ·rw [if_neg c5] at H;have iy:=decide_eq_false c5;clear c5;by_cases c6:a0 > 16384
    ·rw [if_pos c6] at H;have iF:=decide_eq_true c6;clear c6;obtain rfl:=Option.some.inj H;go_enter Tryz.func146,Tryz.ntmps146;go_wp2;go_ret;exact ⟨zS,zB⟩
    ·rw [if_neg c6] at H;have iF:=decide_eq_false c6;clear c6;replace H:=zO H;obtain ⟨arE,A7,H⟩:=H;try dsimp only at H
     obtain rfl:=Option.some.inj H;go_enter Tryz.func146,Tryz.ntmps146;go_wp2_with (first|((with_reducible refine ay (f:=118) rfl ?_);refine aH (some 26) rfl rfl Tryz.func118 (by kernel_rfl) rfl #[.int .i64 (wrap64 ((wrap64 (a0*a0))*2147483648)),.int .i64 1099511627776,.int .i64 (wrap64 (a1*a1))] rfl zL ?_;(with_reducible refine (aX.calls k (wrap64 ((wrap64 (a0*a0))*2147483648)) 1099511627776 (wrap64 (a1*a1)) arE _ A7.out).mono ?_);rintro e w8 ⟨rfl,hb⟩;refine ⟨_,rfl,?_⟩;replace HB:=aj.mk (ak zB hb);(try clear hb)));go_ret;exact ⟨zS,zB⟩
def nD.f (k:Nat) (a0 a1:Int):Option (Int):=(nC.f k a0 a1).bind fun alN=>((dY.f k alN).bind fun alO=>((aJ.f k alO 10).bind fun arF=>(some arF)))
theorem nD.calls (k:Nat) (a0 a1 r:Int) (w:World) (h:nD.f k a0 a1=some r) :
  Calls Tryz.prog 116 #[.int .i64 a0,.int .i64 a1] w fun e w'=>e = .returned (.int .i64 r)/\Below w.heap.size w w':=by
 have HB:=aj.mk (Below.refl w.heap.size w);have H:=h;clear h;unfold nD.f at H;replace H:=zO H;obtain ⟨alN,A3,H⟩:=H;try dsimp only at H
 replace H:=zO H;obtain ⟨alO,A4,H⟩:=H;try dsimp only at H
 replace H:=zO H;obtain ⟨arF,A5,H⟩:=H;try dsimp only at H
 obtain rfl:=Option.some.inj H;go_enter Tryz.func116,Tryz.ntmps116;go_wp2_with (first|((with_reducible refine ay (f:=146) rfl ?_);refine aH (some 7) rfl rfl Tryz.func146 (by kernel_rfl) rfl #[.int .i64 a0,.int .i64 a1] rfl zL ?_;(with_reducible refine (nC.calls k a0 a1 alN _ A3.out).mono ?_);rintro e w6 ⟨rfl,hb⟩;refine ⟨_,rfl,?_⟩;replace HB:=aj.mk (ak zB hb);(try clear hb))|((with_reducible refine ay (f:=145) rfl ?_);refine aH (some 8) rfl rfl Tryz.func145 (by kernel_rfl) rfl #[.int .i64 alN] rfl zL ?_;(with_reducible refine (dY.calls k alN alO _ A4.out).mono ?_);rintro e w7 ⟨rfl,hb⟩;refine ⟨_,rfl,?_⟩;replace HB:=aj.mk (ak zB hb);(try clear hb))|((with_reducible refine ay (f:=101) rfl ?_);refine aH (some 9) rfl rfl Tryz.func101 (by kernel_rfl) rfl #[.int .i64 alO,.int .i64 10] rfl zL ?_;(with_reducible refine (aJ.calls k alO 10 arF _ A5.out).mono ?_);rintro e w8 ⟨rfl,hb⟩;refine ⟨_,rfl,?_⟩;replace HB:=aj.mk (ak zB hb);(try clear hb)));go_ret;exact ⟨zS,zB⟩
mutual
def bg.j0:Nat->Int->Bool->Option (List Int × Int)
 | 0,_,_=>none
 | k+1,x0,x12=>if x12=true then (some (([]:List Int),7)) else (bg.l0 k x0 0)
def bg.l0:Nat->Int->Int->Option (List Int × Int)
 | 0,_,_=>none
 | k+1,x0,x4=>if (wrap64 (x4*65536)) < (wrap64 (3*x0)) then (bg.l0 k x0 (wrap64 (x4+1))) else (bg.l1 k x0 x4 ([]:List Int) (wrap64 (-x4)))
def bg.l1:Nat->Int->Int->List Int->Int->Option (List Int × Int)
 | 0,_,_,_,_=>none
 | k+1,x0,x4,x5,x6=>if x6<=x4 then ((nD.f k x6 x0).bind fun ai0=>(if x5.length < 17592186044416 then (bg.l1 k x0 x4 (x5 ++ [ai0]) (wrap64 (x6+1))) else (none))) else (some (x5,0))
end
def bg.f (k:Nat) (a0:Int):Option (List Int × Int):=if a0 < 1 then (bg.j0 k a0 true) else (bg.j0 k a0 (decide (a0 > 4194304)))
theorem bg.calls (k:Nat) (a0:Int) (r1:List Int) (r2:Int) (w:World) (h:bg.f k a0=some (r1,r2)) :
  Calls Tryz.prog 94 #[.int .i64 a0] w fun e w'=>∃ v0_:Value,e = .returned (.tuple #[v0_,.int .i64 r2])/\Kd.R (Kd.int .i64) 2 w' w.heap.size (fun _=>True) v0_ r1/\Below w.heap.size w w':=by
 have HB:=aj.mk (Below.refl w.heap.size w);have H:=h;clear h;unfold bg.f at H;have HC2:=aj.mk H;clear H;go_enter Tryz.func94,Tryz.ntmps94;go_upto_region 1 with (fail);go_cut [12] (fun v12 wc=>∃ (kq:Nat) (abN:Bool),v12 = .bool abN/\aj (bg.j0 kq a0 abN=some (r1,r2))/\aj (kq<=k)/\aj (Below w.heap.size w wc))
 case first =>
  have H:=HC2.out;clear HC2;by_cases c3:a0 < 1
  ·rw [if_pos c3] at H;have gI:=decide_eq_true c3;clear c3
   (first|rw [gI]|(simp only [cZ,dD];rw [gI])|skip)
   have H':=aj.mk H;clear H;go_wp2;go_meet
   case rel=>exact ⟨_,(true),zT,H',⟨by first|omega|exact Nat.le_refl _⟩,⟨zB⟩⟩
  ·rw [if_neg c3] at H;have gI:=decide_eq_false c3;clear c3
   (first|rw [gI]|(simp only [cZ,dD];rw [gI])|skip)
   have H':=aj.mk H;clear H;go_wp2;go_meet
   case rel=>exact ⟨_,(decide (a0 > 4194304)),zT,H',⟨by first|omega|exact Nat.le_refl _⟩,⟨zB⟩⟩
 case rest =>
  clear HC2;obtain ⟨kq,abN,rfl,HA,HJ1,HB⟩:=hcut;cases kq with
  | zero=>exact absurd HA.out (by simp [bg.j0])
  | succ kj1 =>
   have H:=HA.out;clear HA;simp only [bg.j0] at H;by_cases c4:abN=true
   ·subst c4;rw [if_pos rfl] at H;(try dsimp only at H);simp only [Option.some.injEq,Prod.mk.injEq] at H;obtain ⟨rfl,rfl⟩:=H;go_wp2;go_ret2;exact ⟨_,zS,by first|exact Kd.jY _ _ _ _ _|exact Kd.qB _ _ _ _ _|exact Kd.oL _ _ _ _ _|exact Kd.qC _ _ _ _ _|exact Kd.pW _ _ _ _ _,zB⟩
   ·replace c4:=Bool.eq_false_iff.mpr c4;subst c4;rw [if_neg (show ¬ (false=true) by decide)] at H;(try dsimp only at H);have H':=aj.mk H;clear H;go_wp2;go_loopg [4] kj1 (fun kq v4 w'=>∃ (wM:Int),v4 = .int .i64 wM/\aj (bg.l0 kq a0 wM=some (r1,r2))/\aj (kq<=kj1)/\aj (Below w.heap.size w w'))
    case atStart=>exact ⟨(0),zT,H',⟨Nat.le_refl _⟩,⟨zB⟩⟩
    case round =>
     clear H';obtain ⟨wM,rfl,HA,HK2,HB⟩:=hrel;cases gk with
     | zero=>exact absurd HA.out (by simp [bg.l0])
     | succ k2 =>
      have H:=HA.out;clear HA;simp only [bg.l0] at H;by_cases c5:(wrap64 (wM*65536)) < (wrap64 (3*a0))
      ·rw [if_pos c5] at H;have iy:=decide_eq_true c5;clear c5;have H':=aj.mk H;clear H;go_wp2;go_roundg k2
       case measure=>have:=HJ1.out;have:=HK2.out;omega
       case rel=>exact ⟨(wrap64 (wM+1)),zT,H',⟨by have:=HJ1.out;have:=HK2.out;omega⟩,⟨zB⟩⟩
      ·rw [if_neg c5] at H;have iy:=decide_eq_false c5;clear c5;have H':=aj.mk H;clear H;go_wp2;try simp only [Act.put,List.setIfInBounds_toArray,List.set_cons_succ,List.set_cons_zero]
       go_loopg [5,6] k2 (fun kq v5 v6 w'=>∃ (ai1:List Int) (afE:Int),v6 = .int .i64 afE/\aj (bg.l1 kq a0 wM ai1 afE=some (r1,r2))/\aj (kq<=k2)/\aj (Kd.R (Kd.int .i64) 2 w' w.heap.size (fun _=>True) v5 ai1)/\aj (Below w.heap.size w w'))
       case atStart=>exact ⟨(([]:List Int)),(wrap64 (-wM)),zT,H',⟨Nat.le_refl _⟩,⟨by first|exact Kd.jY _ _ _ _ _|exact Kd.qB _ _ _ _ _|exact Kd.oL _ _ _ _ _|exact Kd.qC _ _ _ _ _|exact Kd.pW _ _ _ _ _⟩,⟨zB⟩⟩
       case round =>
        clear H';obtain ⟨ai1,afE,rfl,HA,HK3,xH,HB⟩:=hrel;cases gk with
        | zero=>exact absurd HA.out (by simp [bg.l1])
        | succ k3 =>
         have H:=HA.out;clear HA;simp only [bg.l1] at H;by_cases c6:afE<=wM
         ·rw [if_pos c6] at H;have iF:=decide_eq_true c6;clear c6;replace H:=zO H;obtain ⟨ai0,A7,H⟩:=H;try dsimp only at H
          by_cases c8:ai1.length < 17592186044416
          ·rw [if_pos c8] at H;have azc:=aj.mk c8;clear c8;obtain ⟨avK,ah2⟩:∃ y_:List Int,y_=(ai1 ++ [ai0]):=⟨_,rfl⟩;replace H:(bg.l1 k3 a0 wM avK (wrap64 (afE+1)))=some (r1,r2):=(by first|(rw [ah2];with_reducible exact H)|(have H2_:=(Option.bind_some _ _).symm.trans H;rw [ah2];with_reducible exact H2_)|(have H2_:=(Option.bind_some _ _).symm.trans H;with_reducible exact H2_)|with_reducible exact H|(rw [ah2];exact H)|exact H);have ax8:=aj.mk ah2;clear ah2;have H':=aj.mk H;clear H;go_wp2_with (first|((with_reducible refine ay (f:=116) rfl ?_);refine aH (some 30) rfl rfl Tryz.func116 (by kernel_rfl) rfl #[.int .i64 afE,.int .i64 a0] rfl zL ?_;(with_reducible refine (nD.calls k3 afE a0 ai0 _ A7.out).mono ?_);rintro e w9 ⟨rfl,hb⟩;refine ⟨_,rfl,?_⟩;obtain ⟨xH,HB⟩:=zA2 (Kd.jc (by (with_reducible repeat (first|apply Kd.aK|apply Kd.aQ|apply Kd.aW));exact xH.out) hb) (ak zB hb);(try clear hb))|((with_reducible refine jQ (b := .append) (xs := #[.tmp 27,.tmp 31]) rfl ?_);at_builtin;refine Kd.kW (Kd.int .i64) (w0:=w) w.heap.size rfl (.tmp 27) (.tmp 31) 44 2 (.int .i64 0) 8 rfl Tryz.underlying44 wQ rfl (by decide) (by omega) u5 ai1 ai0 [.int .i64 ai0] (fun _=>True) (fun _=>False) rfl rfl ?aP (fun _ hk=>hk.elim) ?aF ?aO ?aB ?aS ?aL ?_;(case aP=>exact rfl);(case aB=>exact zB);(case aF=>exact (fun _ _=>trivial));(case aO=>exact (by (with_reducible repeat (first|apply Kd.aK|apply Kd.aQ|apply Kd.aW));exact xH.out));(case aS=>exact (bT zB));(case aL=>have:=azc.out;omega);intro aEw w10 ho hb hg hat;rw [<- ax8.out] at ho;obtain ⟨HB,ax9⟩:=zA2 hb ho;clear ho hb hg hat));go_roundg k3
           case measure=>have:=HJ1.out;have:=HK2.out;have:=HK3.out;omega
           case rel=>exact ⟨(avK),(wrap64 (afE+1)),zT,H',⟨by have:=HJ1.out;have:=HK2.out;have:=HK3.out;omega⟩,⟨by (with_reducible repeat (first|apply Kd.aK|apply Kd.aQ|apply Kd.aW));exact ax9.out⟩,⟨zB⟩⟩
          ·rw [if_neg c8] at H;exact absurd H (by simp)
         ·rw [if_neg c6] at H;have iF:=decide_eq_false c6;clear c6;simp only [Option.some.injEq,Prod.mk.injEq] at H;obtain ⟨rfl,rfl⟩:=H;go_wp2;go_ret2;exact ⟨_,zS,by (with_reducible repeat (first|apply Kd.aK|apply Kd.aQ|apply Kd.aW));exact xH.out,zB⟩
def iH.l0:Nat->Int->List Int->Int->Int->Option (Int)
 | 0,_,_,_,_=>none
 | k+1,x3,x6,x7,x8=>if x8 < x7 then (if 0<=x8 then (if x8 < (x6.length:Int) then ((iT.f (rd x6 x8)).bind fun alP=>((gZ.f k x3 alP).bind fun aoK=>(iH.l0 k aoK x6 x7 (wrap64 (x8+1))))) else (none)) else (none)) else (some x3)
def iH.f (k:Nat) (l0:List Int):Option (Int):=iH.l0 k 0 l0 (l0.length:Int) 0
theorem iH.calls (k:Nat) (A0:Option Addr) (c0:Nat) (l0:List Int) (r:Int) (w:World) (hr0:Kd.C (Kd.int .i64) w A0 l0.length l0) (hc0:l0.length<=c0) (h:iH.f k l0=some r) :
  Calls Tryz.prog 117 #[.slice A0 l0.length c0] w fun e w'=>e = .returned (.int .i64 r)/\dG w w':=by
 have HR0:=aj.mk hr0;have HC0:=aj.mk hc0;clear hr0 hc0;have H:=h;clear h;unfold iH.f at H;have H':=aj.mk H;clear H;go_enter Tryz.func117,Tryz.ntmps117;go_wp2;go_loopg [3,8] k (fun kq v3 v8 w'=>∃ (oU:Int) (iE:Int),v3 = .int .i64 oU/\v8 = .int .i64 iE/\aj (iH.l0 kq oU l0 (l0.length:Int) iE=some r)/\aj (kq<=k)/\dG w w')
 case atStart=>exact ⟨(0),(0),zT,zT,H',⟨Nat.le_refl _⟩,zW⟩
 case round =>
  clear H';obtain ⟨oU,iE,rfl,rfl,HA,HK1,⟨m1,rfl⟩⟩:=hrel;cases gk with
  | zero=>exact absurd HA.out (by simp [iH.l0])
  | succ k1 =>
   have H:=HA.out;clear HA;simp only [iH.l0] at H;by_cases c2:iE < (l0.length:Int)
   ·rw [if_pos c2] at H;have nK:=decide_eq_true c2;clear c2;by_cases c3:0<=iE
    ·rw [if_pos c3] at H;have gI:=decide_eq_true c3;clear c3;by_cases c4:iE < (l0.length:Int)
     ·rw [if_pos c4] at H;have fG:=decide_eq_true c4;clear c4;replace H:=zO H;obtain ⟨alP,A5,H⟩:=H;try dsimp only at H
      replace H:=zO H;obtain ⟨aoK,A6,H⟩:=H;try dsimp only at H
      have H':=aj.mk H;clear H;have arG:0<=(iE:Int):=of_decide_eq_true (by first|(with_reducible assumption)|assumption);have arH:iE < (l0.length:Int):=of_decide_eq_true (by first|(with_reducible assumption)|assumption);obtain ⟨aDA,azd,aA0⟩:=Kd.iZ HR0.out iE arG arH;cases azd;replace arG:=eq_true arG;replace arH:=eq_true arH;go_wp2_with (first|((with_reducible refine ay (f:=142) rfl ?_);refine aH (some 14) rfl rfl Tryz.func142 (by kernel_rfl) rfl #[.int .i64 (rd l0 iE)] rfl zL ?_;(with_reducible refine (iT.calls (rd l0 iE) alP _ A5.out).mono ?_);rintro e w' ⟨rfl,⟨nd,rfl⟩⟩;refine ⟨_,rfl,?_⟩)|((with_reducible refine ay (f:=147) rfl ?_);refine aH (some 15) rfl rfl Tryz.func147 (by kernel_rfl) rfl #[.int .i64 oU,.int .i64 alP] rfl zL ?_;(with_reducible refine (gZ.calls k1 oU alP aoK _ A6.out).mono ?_);rintro e w' ⟨rfl,⟨nd,rfl⟩⟩;refine ⟨_,rfl,?_⟩));go_roundg k1
      case measure=>have:=HK1.out;omega
      case rel=>exact ⟨(aoK),(wrap64 (iE+1)),zT,zT,H',⟨by have:=HK1.out;omega⟩,zW⟩
     ·rw [if_neg c4] at H;exact absurd H (by simp)
    ·rw [if_neg c3] at H;exact absurd H (by simp)
   ·rw [if_neg c2] at H;have nK:=decide_eq_false c2;clear c2;obtain rfl:=Option.some.inj H;go_wp2;go_ret;exact ⟨zT,zW⟩
mutual
def bP.j0:Nat->List Int->Int->Bool->Option (List Int × Int)
 | 0,_,_,_=>none
 | k+1,x0,x4,x26=>if x26=true then (some (([]:List Int),7)) else (bP.l0 k x4 ([]:List Int) x0 (x0.length:Int) 0)
def bP.l0:Nat->Int->List Int->List Int->Int->Int->Option (List Int × Int)
 | 0,_,_,_,_,_=>none
 | k+1,x4,x5,x27,x28,x29=>if x29 < x28 then (if 0<=x29 then (if x29 < (x27.length:Int) then ((aX.f k (rd x27 x29) 1073741824 x4).bind fun ai2=>(if x5.length < 17592186044416 then (bP.l0 k x4 (x5 ++ [ai2]) x27 x28 (wrap64 (x29+1))) else (none))) else (none)) else (none)) else (some (x5,0))
end
def bP.f (k:Nat) (l0:List Int):Option (List Int × Int):=(iH.f k l0).bind fun vZ=>(if ((l0.length:Int) % 2)=0 then (bP.j0 k l0 vZ true) else (if (l0.length:Int) > 1024 then (bP.j0 k l0 vZ true) else (if vZ=0 then (bP.j0 k l0 vZ true) else (bP.j0 k l0 vZ (decide (vZ > 1048576))))))
theorem bP.calls (k:Nat) (A0:Option Addr) (c0:Nat) (l0 r1:List Int) (r2:Int) (w:World) (hr0:Kd.C (Kd.int .i64) w A0 l0.length l0) (hc0:l0.length<=c0) (h:bP.f k l0=some (r1,r2)) :
  Calls Tryz.prog 96 #[.slice A0 l0.length c0] w fun e w'=>∃ v0_:Value,e = .returned (.tuple #[v0_,.int .i64 r2])/\Kd.R (Kd.int .i64) 2 w' w.heap.size (fun _=>True) v0_ r1/\Below w.heap.size w w':=by
 have HR0:=aj.mk hr0;have HC0:=aj.mk hc0;clear hr0 hc0;have HB:=aj.mk (Below.refl w.heap.size w);have H:=h;clear h;unfold bP.f at H;replace H:=zO H;obtain ⟨vZ,A2,H⟩:=H;try dsimp only at H
 have HC3:=aj.mk H;clear H;go_enter Tryz.func96,Tryz.ntmps96;go_upto_region 2 with (first|((with_reducible refine ay (f:=117) rfl ?_);refine aH (some 9) rfl rfl Tryz.func117 (by kernel_rfl) rfl #[.slice A0 l0.length c0] rfl zL ?_;(with_reducible refine (iH.calls k _ _ l0 vZ _ ?iW ?iY A2.out).mono ?_);(case iW=>repeat (first|exact HR0.out|(with_reducible refine Kd.jo ?_ _)|(with_reducible refine Kd.jO ?_ _)|(with_reducible refine Kd.lq ?_)));(case iY=>exact HC0.out);rintro e w' ⟨rfl,⟨nd,rfl⟩⟩;refine ⟨_,rfl,?_⟩))
 (try simp only [Act.put,List.setIfInBounds_toArray,List.set_cons_zero,List.set_cons_succ])
 go_cut [26] (fun v26 wc=>∃ (kq:Nat) (abO:Bool),v26 = .bool abO/\aj (bP.j0 kq l0 vZ abO=some (r1,r2))/\aj (kq<=k)/\aj (Below w.heap.size w wc))
 case first =>
  have H:=HC3.out;clear HC3;by_cases c4:((l0.length:Int) % 2)=0
  ·rw [if_pos c4] at H;have fG:(((l0.length:Int) % 2) == 0)=true:=beq_iff_eq.mpr c4;have aaJ:(((l0.length:Int) % 2) != 0)=false:=bne_eq_false_iff_eq.mpr c4;clear c4
   (first|rw [fG]|(simp only [cZ,dD];rw [fG])|skip)
   have H':=aj.mk H;clear H;go_wp2;go_meet
   case rel=>exact ⟨_,(true),zT,H',⟨by first|omega|exact Nat.le_refl _⟩,⟨zB⟩⟩
  ·rw [if_neg c4] at H;have fG:(((l0.length:Int) % 2) == 0)=false:=beq_eq_false_iff_ne.mpr c4;have aaJ:(((l0.length:Int) % 2) != 0)=true:=bne_iff_ne.mpr c4
   (first|rw [fG]|(simp only [cZ,dD];rw [fG])|skip)
   by_cases c5:(l0.length:Int) > 1024
   ·rw [if_pos c5] at H;have iy:=decide_eq_true c5;have acn:decide (1024 < l0.length)=true:=decide_eq_true (by omega);clear c5;have H':=aj.mk H;clear H;go_wp2;go_meet
    case rel=>exact ⟨_,(true),zT,H',⟨by first|omega|exact Nat.le_refl _⟩,⟨zB⟩⟩
   ·rw [if_neg c5] at H;have iy:=decide_eq_false c5;have acn:decide (1024 < l0.length)=false:=decide_eq_false (by omega);clear c5;by_cases c6:vZ=0
    ·rw [if_pos c6] at H;have iF:(vZ == 0)=true:=beq_iff_eq.mpr c6;have vP:(vZ != 0)=false:=bne_eq_false_iff_eq.mpr c6;clear c6;have H':=aj.mk H;clear H;go_wp2;go_meet
     case rel=>exact ⟨_,(true),zT,H',⟨by first|omega|exact Nat.le_refl _⟩,⟨zB⟩⟩
    ·rw [if_neg c6] at H;have iF:(vZ == 0)=false:=beq_eq_false_iff_ne.mpr c6;have vP:(vZ != 0)=true:=bne_iff_ne.mpr c6;have H':=aj.mk H;clear H;go_wp2;go_meet
     case rel=>exact ⟨_,(decide (vZ > 1048576)),zT,H',⟨by first|omega|exact Nat.le_refl _⟩,⟨zB⟩⟩
 case rest =>
  clear HC3;obtain ⟨kq,abO,rfl,HA,HJ2,HB⟩:=hcut;cases kq with
  | zero=>exact absurd HA.out (by simp [bP.j0])
  | succ kj2 =>
   have H:=HA.out;clear HA;simp only [bP.j0] at H;by_cases c7:abO=true
   ·subst c7;rw [if_pos rfl] at H;(try dsimp only at H);simp only [Option.some.injEq,Prod.mk.injEq] at H;obtain ⟨rfl,rfl⟩:=H;go_wp2;go_ret2;exact ⟨_,zS,by first|exact Kd.jY _ _ _ _ _|exact Kd.qB _ _ _ _ _|exact Kd.oL _ _ _ _ _|exact Kd.qC _ _ _ _ _|exact Kd.pW _ _ _ _ _,zB⟩
   ·replace c7:=Bool.eq_false_iff.mpr c7;subst c7;rw [if_neg (show ¬ (false=true) by decide)] at H;(try dsimp only at H);have H':=aj.mk H;clear H;go_wp2;go_loopg [5,29] kj2 (fun kq v5 v29 w'=>∃ (ng:List Int) (mQ:Int),v29 = .int .i64 mQ/\aj (bP.l0 kq vZ ng l0 (l0.length:Int) mQ=some (r1,r2))/\aj (kq<=kj2)/\aj (Kd.R (Kd.int .i64) 2 w' w.heap.size (fun _=>True) v5 ng)/\aj (Below w.heap.size w w'))
    case atStart=>exact ⟨(([]:List Int)),(0),zT,H',⟨Nat.le_refl _⟩,⟨by first|exact Kd.jY _ _ _ _ _|exact Kd.qB _ _ _ _ _|exact Kd.oL _ _ _ _ _|exact Kd.qC _ _ _ _ _|exact Kd.pW _ _ _ _ _⟩,⟨zB⟩⟩
    case round =>
     clear H';obtain ⟨ng,mQ,rfl,HA,HK2,xH,HB⟩:=hrel;cases gk with
     | zero=>exact absurd HA.out (by simp [bP.l0])
     | succ k2 =>
      have H:=HA.out;clear HA;simp only [bP.l0] at H;by_cases c8:mQ < (l0.length:Int)
      ·rw [if_pos c8] at H;have vS:=decide_eq_true c8;clear c8;by_cases c9:0<=mQ
       ·rw [if_pos c9] at H;have qH:=decide_eq_true c9;clear c9;by_cases c10:mQ < (l0.length:Int)
        ·rw [if_pos c10] at H;have pX:=decide_eq_true c10;clear c10;replace H:=zO H;obtain ⟨ai2,A11,H⟩:=H;try dsimp only at H
         by_cases c12:ng.length < 17592186044416
         ·rw [if_pos c12] at H;have aya:=aj.mk c12;clear c12;obtain ⟨avL,ah3⟩:∃ y_:List Int,y_=(ng ++ [ai2]):=⟨_,rfl⟩;replace H:(bP.l0 k2 vZ avL l0 (l0.length:Int) (wrap64 (mQ+1)))=some (r1,r2):=(by first|(rw [ah3];with_reducible exact H)|(have H2_:=(Option.bind_some _ _).symm.trans H;rw [ah3];with_reducible exact H2_)|(have H2_:=(Option.bind_some _ _).symm.trans H;with_reducible exact H2_)|with_reducible exact H|(rw [ah3];exact H)|exact H);have ayb:=aj.mk ah3;clear ah3;have H':=aj.mk H;clear H;have arI:0<=(mQ:Int):=of_decide_eq_true (by first|(with_reducible assumption)|assumption);have arJ:mQ < (l0.length:Int):=of_decide_eq_true (by first|(with_reducible assumption)|assumption);obtain ⟨aDB,aze,ai3⟩:=Kd.iZ HR0.out mQ arI arJ;cases aze;replace ai3:=(HB.out.cell (World.block_lt_of_cell? w _ ai3)).trans ai3;replace arI:=eq_true arI;replace arJ:=eq_true arJ;go_wp2_with (first|((with_reducible refine ay (f:=118) rfl ?_);refine aH (some 36) rfl rfl Tryz.func118 (by kernel_rfl) rfl #[.int .i64 (rd l0 mQ),.int .i64 1073741824,.int .i64 vZ] rfl zL ?_;(with_reducible refine (aX.calls k2 (rd l0 mQ) 1073741824 vZ ai2 _ A11.out).mono ?_);rintro e w13 ⟨rfl,hb⟩;refine ⟨_,rfl,?_⟩;obtain ⟨xH,HB⟩:=zA2 (Kd.jc (by (with_reducible repeat (first|apply Kd.aK|apply Kd.aQ|apply Kd.aW));exact xH.out) hb) (ak zB hb);(try clear hb))|((with_reducible refine jQ (b := .append) (xs := #[.tmp 33,.tmp 37]) rfl ?_);(try (refine kX (by rfl) ?_;dsimp only));at_builtin;refine Kd.kW (Kd.int .i64) (w0:=w) w.heap.size rfl (.tmp 33) (.tmp 37) 44 2 (.int .i64 0) 8 rfl Tryz.underlying44 wQ rfl (by decide) (by omega) u5 ng ai2 [.int .i64 ai2] (fun _=>True) (fun _=>False) rfl rfl ?aP (fun _ hk=>hk.elim) ?aF ?aO ?aB ?aS ?aL ?_;(case aP=>exact rfl);(case aB=>exact zB);(case aF=>exact (fun _ _=>trivial));(case aO=>exact (by (with_reducible repeat (first|apply Kd.aK|apply Kd.aQ|apply Kd.aW));exact xH.out));(case aS=>exact (bT zB));(case aL=>have:=aya.out;omega);intro aEx w14 ho hb hg hat;rw [<- ayb.out] at ho;obtain ⟨HB,ayc⟩:=zA2 hb ho;clear ho hb hg hat));go_roundg k2
          case measure=>have:=HJ2.out;have:=HK2.out;omega
          case rel=>exact ⟨(avL),(wrap64 (mQ+1)),zT,H',⟨by have:=HJ2.out;have:=HK2.out;omega⟩,⟨by (with_reducible repeat (first|apply Kd.aK|apply Kd.aQ|apply Kd.aW));exact ayc.out⟩,⟨zB⟩⟩
         ·rw [if_neg c12] at H;exact absurd H (by simp)
        ·rw [if_neg c10] at H;exact absurd H (by simp)
       ·rw [if_neg c9] at H;exact absurd H (by simp)
      ·rw [if_neg c8] at H;have vS:=decide_eq_false c8;clear c8;simp only [Option.some.injEq,Prod.mk.injEq] at H;obtain ⟨rfl,rfl⟩:=H;go_wp2;go_ret2;exact ⟨_,zS,by (with_reducible repeat (first|apply Kd.aK|apply Kd.aQ|apply Kd.aW));exact xH.out,zB⟩
end Go.Proofs.YtpondkggmcmpfaaGreatDoor.QA
