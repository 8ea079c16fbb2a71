/- Joined by wip/tools/bundle.py out of: QAx35 QAx36 QAx37 QAx38 QAx39 QAx40. -/
import Derived.Test.YtpondkggmcmpfaaGreatDoorBDirectComposes13
import Derived.Test.YtpondkggmcmpfaaGreatDoorBDirectComposes3
set_option maxHeartbeats 8000000
set_option maxRecDepth 100000
namespace Go.Proofs.YtpondkggmcmpfaaGreatDoor.QA
open Go.Proofs.YtpondkggmcmpfaaGreatDoor.T
open Go.RowKit Go.Proofs.YtpondkggmcmpfaaGreatDoorW.PrintWords Go.Proofs.YtpondkggmcmpfaaGreatDoorW.PrintLast Go.Proofs.YtpondkggmcmpfaaGreatDoorW.PrintMore
attribute [local go_sem] dU dM dN fA fB
set_option linter.unusedVariables false
set_option linter.unusedSimpArgs false
def fD.j0:Nat→Bool→Bool→Int→Int→Option (Int)
 | 0,_,_,_,_=>none
 | k+1,x7,x28,aqf,aqg=>if x28=true then ((iK.f aqf aqg 0 1).bind fun aw9=>((cZ.f k aw9.1 aw9.2 x7).bind fun aot=>(some aot))) else ((cZ.f k aqf aqg x7).bind fun aou=>(some aou))
def fD.f (k:Nat) (a0 a1:Int):Option (Int):=if a1=0 then (some 0) else ((dW.f a0).bind fun ahb=>((dW.f a1).bind fun ahc=>((fQ.f k 0 ahb ahc).bind fun ajU=>(if ((decide (a0 < 0)) != (decide (a1 < 0)))=true then (fD.j0 k ((decide (a0 < 0)) != (decide (a1 < 0))) (decide (ajU.2.2 > 0)) ajU.1 ajU.2.1) else (fD.j0 k ((decide (a0 < 0)) != (decide (a1 < 0))) false ajU.1 ajU.2.1)))))
theorem fD.calls (k:Nat) (a0 a1 r:Int) (w:World) (h:fD.f k a0 a1=some r) :
  Calls Tryz.prog 144 #[.int .i64 a0,.int .i64 a1] w fun e w'=>e = .returned (.int .i64 r)∧Below w.heap.size w w':=by
 have aaB:=Tryz.underlying179;have HB:=aj.mk (Below.refl w.heap.size w);have H:=h;clear h;unfold fD.f at H;by_cases c3:a1=0
 ·rw [if_pos c3] at H;have fV:(a1 == 0)=true:=beq_iff_eq.mpr c3;have wG:(a1 != 0)=false:=bne_eq_false_iff_eq.mpr c3;clear c3;obtain rfl:=Option.some.inj H;go_enter Tryz.func144,Tryz.ntmps144;go_wp2;go_ret;exact ⟨zS,zB⟩
 ·rw [if_neg c3] at H;have fV:(a1 == 0)=false:=beq_eq_false_iff_ne.mpr c3;have wG:(a1 != 0)=true:=bne_iff_ne.mpr c3;replace H:=zO H;obtain ⟨ahb,A4,H⟩:=H;try dsimp only at H
  replace H:=zO H;obtain ⟨ahc,A5,H⟩:=H;try dsimp only at H
  replace H:=zO H;obtain ⟨⟨yt,yu,auU⟩,A6,H⟩:=H;try dsimp only at H
  rcases Bool.eq_false_or_eq_true ((decide (a0 < 0)) != (decide (a1 < 0))) with hsv|hsv
  ·have vw:((decide (a0 < 0)) != (decide (a1 < 0)))=true:=hsv;have arD:((decide (a0 < 0)) == (decide (a1 < 0)))=false:=(by simpa using hsv);have HC7:=aj.mk H;clear H;go_enter Tryz.func144,Tryz.ntmps144;go_upto_region 5 with (first|((with_reducible refine ay (f:=120) rfl ?_);refine aH (some 12) rfl rfl Tryz.func120 (by kernel_rfl) rfl #[.int .i64 a0] rfl zL ?_;(with_reducible refine (dW.calls a0 ahb _ A4.out).mono ?_);rintro e w' ⟨rfl,⟨nd,rfl⟩⟩;refine ⟨_,rfl,?_⟩)|((with_reducible refine ay (f:=120) rfl ?_);refine aH (some 15) rfl rfl Tryz.func120 (by kernel_rfl) rfl #[.int .i64 a1] rfl zL ?_;(with_reducible refine (dW.calls a1 ahc _ A5.out).mono ?_);rintro e w' ⟨rfl,⟨nd,rfl⟩⟩;refine ⟨_,rfl,?_⟩)|((with_reducible refine ay (f:=172) rfl ?_);refine aH (some 16) rfl rfl Tryz.func172 (by kernel_rfl) rfl #[.agg #[.int .u64 0,.int .u64 ahb],.int .u64 ahc] rfl zL ?_;(with_reducible refine (fQ.calls k 0 ahb ahc yt yu auU _ A6.out).mono ?_);rintro e w8 ⟨rfl,hb⟩;refine ⟨_,rfl,?_⟩;replace HB:=aj.mk (ak zB hb);(try clear hb))|((with_reducible refine aZ (N:=5) rfl ?_);refine aX zR (N:=5) zR (cs := #[.int .u64 0,.int .u64 0]) (t:=179) zG ?_;intro ajV hg w9 hbox hb;obtain ⟨HB,lJ,aBJ,aBK⟩:=zA4 (ak zB hb) hbox (zg hg zB) (zg hg zB);clear hb hbox hg;obtain ⟨_,_⟩:=zC2 lJ.out;obtain ⟨_,_⟩:=zF2 lJ.out))
   (try simp only [Act.put,List.setIfInBounds_toArray,List.set_cons_zero,List.set_cons_succ])
   go_cut [28] (fun v28 wc=>∃ (kq:Nat) (ac5:Bool),v28 = .bool ac5∧aj (fD.j0 kq ((decide (a0 < 0)) != (decide (a1 < 0))) ac5 yt yu=some r)∧aj (kq≤k)∧aj (wc.heap[ajV]? = some (.cells #[.int .u64 yt,.int .u64 yu] 179 (0,0)))∧aj (Below w.heap.size w wc))
   case first =>
    have H:=HC7.out;clear HC7;by_cases c11:((decide (a0 < 0)) != (decide (a1 < 0)))=true
    ·rw [if_pos c11] at H;have jv:((decide (a0 < 0)) != (decide (a1 < 0)))=true:=c11
     (try (have zH:decide ((decide (a0 < 0))=(decide (a1 < 0)))=false:=by simpa using c11))
     (try (have arE:((decide (a0 < 0)) == (decide (a1 < 0)))=false:=by simpa using c11))
     (try (have aBL:¬ ((decide (a0 < 0))=(decide (a1 < 0))):=by simpa using c11))
     clear c11
     (first|rw [jv]|(simp only [bP,bU];rw [jv])|skip)
     have H':=aj.mk H;clear H;go_wp2;go_meet
     case rel=>exact ⟨_,(decide (auU > 0)),zT,H',⟨by first|omega|exact Nat.le_refl _⟩,⟨by refine zD ?_;refine bg (cs := #[.int .u64 yt,.int .u64 0]) ?_ 1 _ rfl;refine zD ?_;refine bg (cs := #[.int .u64 0,.int .u64 0]) ?_ 0 _ rfl;refine zD ?_;exact lJ.out⟩,⟨zB⟩⟩
    ·rw [if_neg c11] at H;have jv:((decide (a0 < 0)) != (decide (a1 < 0)))=false:=(by simpa using c11);exact absurd (vw.symm.trans jv) (by decide)
   case rest =>
    clear HC7;obtain ⟨kq,ac5,rfl,HA,HJ6,lJ,HB⟩:=hcut;cases kq with
    | zero=>exact absurd HA.out (by simp [fD.j0])
    | succ kj6 =>
     have H:=HA.out;clear HA;simp only [fD.j0] at H;by_cases c12:ac5=true
     ·subst c12;rw [if_pos rfl] at H;(try dsimp only at H);replace H:=zO H;obtain ⟨⟨adO,afB⟩,A13,H⟩:=H;try dsimp only at H
      replace H:=zO H;obtain ⟨aot,A14,H⟩:=H;try dsimp only at H
      obtain rfl:=Option.some.inj H;obtain ⟨_,_⟩:=zC2 lJ.out;obtain ⟨_,_⟩:=zF2 lJ.out;go_wp2_with (first|((with_reducible refine ay (f:=124) rfl ?_);refine aH (some 31) rfl rfl Tryz.func124 (by kernel_rfl) rfl #[.agg #[.int .u64 yt,.int .u64 yu],.agg #[.int .u64 0,.int .u64 1]] rfl zL ?_;(with_reducible refine (iK.calls yt yu 0 1 adO afB _ A13.out).mono ?_);rintro e w16 ⟨rfl,hb⟩;refine ⟨_,rfl,?_⟩;obtain ⟨lJ,HB⟩:=zA2 (aA (zK lJ) hb) (ak zB hb);(try clear hb);obtain ⟨_,_⟩:=zC2 lJ.out;obtain ⟨_,_⟩:=zF2 lJ.out)|((with_reducible refine ay (f:=125) rfl ?_);refine aH (some 34) rfl rfl Tryz.func125 (by kernel_rfl) rfl #[.agg #[.int .u64 adO,.int .u64 afB],.bool true] rfl zL ?_;(with_reducible refine (cZ.calls kj6 adO afB true aot _ (by have h:=A14.out;rw [vw] at h;exact h)).mono ?_);rintro e w18 ⟨rfl,hb⟩;refine ⟨_,rfl,?_⟩;obtain ⟨lJ,HB⟩:=zA2 (aA (g:=ajV) (o := .cells #[.int .u64 adO,.int .u64 afB] 179 (0,0)) (by refine zD ?_;refine bg (cs := #[.int .u64 adO,.int .u64 yu]) ?_ 1 _ rfl;refine zD ?_;refine bg (cs := #[.int .u64 yt,.int .u64 yu]) ?_ 0 _ rfl;refine zD ?_;exact lJ.out) hb) (ak zB hb);(try clear hb)));go_ret;exact ⟨zS,zB⟩
     ·replace c12:=Bool.eq_false_iff.mpr c12;subst c12;rw [if_neg (show ¬ (false=true) by decide)] at H;(try dsimp only at H);replace H:=zO H;obtain ⟨aou,A19,H⟩:=H;try dsimp only at H
      obtain rfl:=Option.some.inj H;obtain ⟨_,_⟩:=zC2 lJ.out;obtain ⟨_,_⟩:=zF2 lJ.out;go_wp2_with (first|((with_reducible refine ay (f:=125) rfl ?_);refine aH (some 34) rfl rfl Tryz.func125 (by kernel_rfl) rfl #[.agg #[.int .u64 yt,.int .u64 yu],.bool true] rfl zL ?_;(with_reducible refine (cZ.calls kj6 yt yu true aou _ (by have h:=A19.out;rw [vw] at h;exact h)).mono ?_);rintro e w21 ⟨rfl,hb⟩;refine ⟨_,rfl,?_⟩;obtain ⟨lJ,HB⟩:=zA2 (aA (zK lJ) hb) (ak zB hb);(try clear hb)));go_ret;exact ⟨zS,zB⟩
  ·have vw:((decide (a0 < 0)) != (decide (a1 < 0)))=false:=hsv;have arD:((decide (a0 < 0)) == (decide (a1 < 0)))=true:=(by simpa using hsv);have HC7:=aj.mk H;clear H;go_enter Tryz.func144,Tryz.ntmps144;go_upto_region 5 with (first|((with_reducible refine ay (f:=120) rfl ?_);refine aH (some 12) rfl rfl Tryz.func120 (by kernel_rfl) rfl #[.int .i64 a0] rfl zL ?_;(with_reducible refine (dW.calls a0 ahb _ A4.out).mono ?_);rintro e w' ⟨rfl,⟨nd,rfl⟩⟩;refine ⟨_,rfl,?_⟩)|((with_reducible refine ay (f:=120) rfl ?_);refine aH (some 15) rfl rfl Tryz.func120 (by kernel_rfl) rfl #[.int .i64 a1] rfl zL ?_;(with_reducible refine (dW.calls a1 ahc _ A5.out).mono ?_);rintro e w' ⟨rfl,⟨nd,rfl⟩⟩;refine ⟨_,rfl,?_⟩)|((with_reducible refine ay (f:=172) rfl ?_);refine aH (some 16) rfl rfl Tryz.func172 (by kernel_rfl) rfl #[.agg #[.int .u64 0,.int .u64 ahb],.int .u64 ahc] rfl zL ?_;(with_reducible refine (fQ.calls k 0 ahb ahc yt yu auU _ A6.out).mono ?_);rintro e w8 ⟨rfl,hb⟩;refine ⟨_,rfl,?_⟩;replace HB:=aj.mk (ak zB hb);(try clear hb))|((with_reducible refine aZ (N:=5) rfl ?_);refine aX zR (N:=5) zR (cs := #[.int .u64 0,.int .u64 0]) (t:=179) zG ?_;intro ajV hg w9 hbox hb;obtain ⟨HB,lJ,aBJ,aBK⟩:=zA4 (ak zB hb) hbox (zg hg zB) (zg hg zB);clear hb hbox hg;obtain ⟨_,_⟩:=zC2 lJ.out;obtain ⟨_,_⟩:=zF2 lJ.out))
   (try simp only [Act.put,List.setIfInBounds_toArray,List.set_cons_zero,List.set_cons_succ])
   go_cut [28] (fun v28 wc=>∃ (kq:Nat) (ac5:Bool),v28 = .bool ac5∧aj (fD.j0 kq ((decide (a0 < 0)) != (decide (a1 < 0))) ac5 yt yu=some r)∧aj (kq≤k)∧aj (wc.heap[ajV]? = some (.cells #[.int .u64 yt,.int .u64 yu] 179 (0,0)))∧aj (Below w.heap.size w wc))
   case first =>
    have H:=HC7.out;clear HC7;by_cases c11:((decide (a0 < 0)) != (decide (a1 < 0)))=true
    ·rw [if_pos c11] at H;have jv:((decide (a0 < 0)) != (decide (a1 < 0)))=true:=c11;exact absurd (vw.symm.trans jv) (by decide)
    ·rw [if_neg c11] at H;have jv:((decide (a0 < 0)) != (decide (a1 < 0)))=false:=by simpa using c11
     (try (have zH:decide ((decide (a0 < 0))=(decide (a1 < 0)))=true:=by simpa using c11))
     (try (have arE:((decide (a0 < 0)) == (decide (a1 < 0)))=true:=by simpa using c11))
     clear c11
     (first|rw [jv]|(simp only [bP,bU];rw [jv])|skip)
     have H':=aj.mk H;clear H;go_wp2;go_meet
     case rel=>exact ⟨_,(false),zT,H',⟨by first|omega|exact Nat.le_refl _⟩,⟨by refine zD ?_;refine bg (cs := #[.int .u64 yt,.int .u64 0]) ?_ 1 _ rfl;refine zD ?_;refine bg (cs := #[.int .u64 0,.int .u64 0]) ?_ 0 _ rfl;refine zD ?_;exact lJ.out⟩,⟨zB⟩⟩
   case rest =>
    clear HC7;obtain ⟨kq,ac5,rfl,HA,HJ6,lJ,HB⟩:=hcut;cases kq with
    | zero=>exact absurd HA.out (by simp [fD.j0])
    | succ kj6 =>
     have H:=HA.out;clear HA;simp only [fD.j0] at H;by_cases c12:ac5=true
     ·subst c12;rw [if_pos rfl] at H;(try dsimp only at H);replace H:=zO H;obtain ⟨⟨adO,afB⟩,A13,H⟩:=H;try dsimp only at H
      replace H:=zO H;obtain ⟨aot,A14,H⟩:=H;try dsimp only at H
      obtain rfl:=Option.some.inj H;obtain ⟨_,_⟩:=zC2 lJ.out;obtain ⟨_,_⟩:=zF2 lJ.out;go_wp2_with (first|((with_reducible refine ay (f:=124) rfl ?_);refine aH (some 31) rfl rfl Tryz.func124 (by kernel_rfl) rfl #[.agg #[.int .u64 yt,.int .u64 yu],.agg #[.int .u64 0,.int .u64 1]] rfl zL ?_;(with_reducible refine (iK.calls yt yu 0 1 adO afB _ A13.out).mono ?_);rintro e w16 ⟨rfl,hb⟩;refine ⟨_,rfl,?_⟩;obtain ⟨lJ,HB⟩:=zA2 (aA (zK lJ) hb) (ak zB hb);(try clear hb);obtain ⟨_,_⟩:=zC2 lJ.out;obtain ⟨_,_⟩:=zF2 lJ.out)|((with_reducible refine ay (f:=125) rfl ?_);refine aH (some 34) rfl rfl Tryz.func125 (by kernel_rfl) rfl #[.agg #[.int .u64 adO,.int .u64 afB],.bool false] rfl zL ?_;(with_reducible refine (cZ.calls kj6 adO afB false aot _ (by have h:=A14.out;rw [vw] at h;exact h)).mono ?_);rintro e w18 ⟨rfl,hb⟩;refine ⟨_,rfl,?_⟩;obtain ⟨lJ,HB⟩:=zA2 (aA (g:=ajV) (o := .cells #[.int .u64 adO,.int .u64 afB] 179 (0,0)) (by refine zD ?_;refine bg (cs := #[.int .u64 adO,.int .u64 yu]) ?_ 1 _ rfl;refine zD ?_;refine bg (cs := #[.int .u64 yt,.int .u64 yu]) ?_ 0 _ rfl;refine zD ?_;exact lJ.out) hb) (ak zB hb);(try clear hb)));go_ret;exact ⟨zS,zB⟩
     ·replace c12:=Bool.eq_false_iff.mpr c12;subst c12;rw [if_neg (show ¬ (false=true) by decide)] at H;(try dsimp only at H);replace H:=zO H;obtain ⟨aou,A19,H⟩:=H;try dsimp only at H
      obtain rfl:=Option.some.inj H;obtain ⟨_,_⟩:=zC2 lJ.out;obtain ⟨_,_⟩:=zF2 lJ.out;go_wp2_with (first|((with_reducible refine ay (f:=125) rfl ?_);refine aH (some 34) rfl rfl Tryz.func125 (by kernel_rfl) rfl #[.agg #[.int .u64 yt,.int .u64 yu],.bool false] rfl zL ?_;(with_reducible refine (cZ.calls kj6 yt yu false aou _ (by have h:=A19.out;rw [vw] at h;exact h)).mono ?_);rintro e w21 ⟨rfl,hb⟩;refine ⟨_,rfl,?_⟩;obtain ⟨lJ,HB⟩:=zA2 (aA (zK lJ) hb) (ak zB hb);(try clear hb)));go_ret;exact ⟨zS,zB⟩
mutual
def aG.j0:Nat→List Int→Bool→Option (List Int × Int)
 | 0,_,_=>none
 | k+1,x0,x22=>if x22=true then (some (([]:List Int),7)) else (aG.l0 k x0 x0 (x0.length:Int) 0)
def aG.l0:Nat→List Int→List Int→Int→Int→Option (List Int × Int)
 | 0,_,_,_,_=>none
 | k+1,x0,x23,x24,x25=>if x25 < x24 then (if 0≤x25 then (if x25 < (x23.length:Int) then ((jl.f (rd x23 x25)).bind fun afC=>(if afC > 1099511627776 then (some (([]:List Int),7)) else (aG.l0 k x0 x23 x24 (wrap64 (x25+1))))) else (none)) else (none)) else ((fO.f k x0).bind fun sO=>(if sO < 268435456 then (some (([]:List Int),8)) else (aG.l1 k sO ([]:List Int) ([]:List Int) 16384 x0 (x0.length:Int) 0)))
def aG.l1:Nat→Int→List Int→List Int→Int→List Int→Int→Int→Option (List Int × Int)
 | 0,_,_,_,_,_,_,_=>none
 | k+1,x6,x7,x8,x9,x37,x38,x39=>if x39 < x38 then (if 0≤x39 then (if x39 < (x37.length:Int) then ((fD.f k (wrap64 ((rd x37 x39)*16384)) x6).bind fun su=>(if x7.length < 17592186044416 then (if x8.length < 17592186044416 then (aG.l1 k x6 (x7 ++ [su]) (x8 ++ [wrap64 ((wrap64 ((rd x37 x39)*16384)) - (wrap64 (su*x6)))]) (wrap64 (x9 - su)) x37 x38 (wrap64 (x39+1))) else (none)) else (none))) else (none)) else (none)) else (aG.l2 k x7 x8 x9)
def aG.l2:Nat→List Int→List Int→Int→Option (List Int × Int)
 | 0,_,_,_=>none
 | k+1,x7,x8,x9=>if x9 > 0 then (aG.l3 k x7 x8 x9 0 (x8.length:Int) 0) else (some (x7,0))
def aG.l3:Nat→List Int→List Int→Int→Int→Int→Int→Option (List Int × Int)
 | 0,_,_,_,_,_,_=>none
 | k+1,x7,x8,x9,x13,x67,x68=>if x68 < x67 then (if 0≤x68 then (if x68 < (x8.length:Int) then (if 0≤x13 then (if x13 < (x8.length:Int) then (if (rd x8 x68) > (rd x8 x13) then (aG.l3 k x7 x8 x9 x68 x67 (wrap64 (x68+1))) else (aG.l3 k x7 x8 x9 x13 x67 (wrap64 (x68+1)))) else (none)) else (none)) else (none)) else (none)) else (if 0≤x13 then (if x13 < (x7.length:Int) then (if x13 < (x8.length:Int) then (aG.l2 k (x7.set (x13:Int).toNat (wrap64 ((rd x7 x13)+1))) (x8.set (x13:Int).toNat (-1)) (wrap64 (x9 - 1))) else (none)) else (none)) else (none))
end
def aG.f (k:Nat) (l0:List Int):Option (List Int × Int):=if (l0.length:Int) < 1 then (aG.j0 k l0 true) else (aG.j0 k l0 (decide ((l0.length:Int) > 1048576)))
theorem aG.calls (k:Nat) (A0:Option Addr) (c0:Nat) (l0 r1:List Int) (r2:Int) (w:World) (hr0:Kd.C (Kd.int .i64) w A0 l0.length l0) (hc0:l0.length≤c0) (h:aG.f k l0=some (r1,r2)) :
  Calls Tryz.prog 115 #[.slice A0 l0.length c0] w fun e w'=>∃ v0_:Value,e = .returned (.tuple #[v0_,.int .i64 r2])∧Kd.R (Kd.int .i64) 2 w' w.heap.size (fun _=>True) v0_ r1∧Below w.heap.size w w':=by
 have HR0:=aj.mk hr0;have HC0:=aj.mk hc0;clear hr0 hc0;have HB:=aj.mk (Below.refl w.heap.size w);have H:=h;clear h;unfold aG.f at H;have HC2:=aj.mk H;clear H;go_enter Tryz.func115,Tryz.ntmps115;go_upto_region 1 with (fail);repeat (go_quiet (fail);go_upto_region 1 with (fail))
 go_cut [22] (fun v22 wc=>∃ (kq:Nat) (ang:Bool),v22 = .bool ang∧aj (aG.j0 kq l0 ang=some (r1,r2))∧aj (kq≤k)∧aj (Below w.heap.size w wc))
 case first =>
  have H:=HC2.out;clear HC2;by_cases c3:(l0.length:Int) < 1
  ·rw [if_pos c3] at H;have fV:=decide_eq_true c3;have wG:decide (l0.length < 1)=true:=decide_eq_true (by omega);clear c3
   (first|rw [fV]|(simp only [bP,bU];rw [fV])|skip)
   have H':=aj.mk H;clear H;go_wp2;repeat (go_quiet (fail);try go_wp2)
   go_meet
   case rel=>exact ⟨_,(true),zT,H',⟨by first|omega|exact Nat.le_refl _⟩,⟨zB⟩⟩
  ·rw [if_neg c3] at H;have fV:=decide_eq_false c3;have wG:decide (l0.length < 1)=false:=decide_eq_false (by omega);clear c3
   (first|rw [fV]|(simp only [bP,bU];rw [fV])|skip)
   have H':=aj.mk H;clear H;go_wp2;repeat (go_quiet (fail);try go_wp2)
   go_meet
   case rel=>exact ⟨_,(decide ((l0.length:Int) > 1048576)),zT,H',⟨by first|omega|exact Nat.le_refl _⟩,⟨zB⟩⟩
 case rest =>
  clear HC2;obtain ⟨kq,ang,rfl,HA,HJ1,HB⟩:=hcut;cases kq with
  | zero=>exact absurd HA.out (by simp [aG.j0])
  | succ kj1 =>
   have H:=HA.out;clear HA;simp only [aG.j0] at H;by_cases c4:ang=true
   ·subst c4;rw [if_pos rfl] at H;(try dsimp only at H);simp only [Option.some.injEq,Prod.mk.injEq] at H;obtain ⟨rfl,rfl⟩:=H;go_wp2;repeat (go_quiet (fail);try go_wp2)
    go_ret2;exact ⟨_,zS,by first|exact Kd.kQ _ _ _ _ _|exact Kd.qM _ _ _ _ _|exact Kd.oU _ _ _ _ _|exact Kd.qN _ _ _ _ _|exact Kd.qo _ _ _ _ _,zB⟩
   ·replace c4:=Bool.eq_false_iff.mpr c4;subst c4;rw [if_neg (show ¬ (false=true) by decide)] at H;(try dsimp only at H);have H':=aj.mk H;clear H;go_wp2;repeat (go_quiet (fail);try go_wp2)
    go_loopg [25] kj1 (fun kq v25 w'=>∃ (sQ:Int),v25 = .int .i64 sQ∧aj (aG.l0 kq l0 l0 (l0.length:Int) sQ=some (r1,r2))∧aj (kq≤kj1)∧aj (Below w.heap.size w w'))
    case atStart=>exact ⟨(0),zT,H',⟨Nat.le_refl _⟩,⟨zB⟩⟩
    case round =>
     clear H';obtain ⟨sQ,rfl,HA,HK2,HB⟩:=hrel;cases gk with
     | zero=>exact absurd HA.out (by simp [aG.l0])
     | succ k2 =>
      have H:=HA.out;clear HA;simp only [aG.l0] at H;by_cases c5:sQ < (l0.length:Int)
      ·rw [if_pos c5] at H;have gJ:=decide_eq_true c5;clear c5;by_cases c6:0≤sQ
       ·rw [if_pos c6] at H;have gI:=decide_eq_true c6;clear c6;by_cases c7:sQ < (l0.length:Int)
        ·rw [if_pos c7] at H;have jr:=decide_eq_true c7;clear c7;replace H:=zO H;obtain ⟨afC,A8,H⟩:=H;try dsimp only at H
         by_cases c9:afC > 1099511627776
         ·rw [if_pos c9] at H;have o8:=decide_eq_true c9;clear c9;simp only [Option.some.injEq,Prod.mk.injEq] at H;obtain ⟨rfl,rfl⟩:=H;have aiM:0≤(sQ:Int):=of_decide_eq_true (by first|(with_reducible assumption)|assumption);have aiN:sQ < (l0.length:Int):=of_decide_eq_true (by first|(with_reducible assumption)|assumption);obtain ⟨aBM,auV,ab5⟩:=Kd.iY HR0.out sQ aiM aiN;cases auV;replace ab5:=(HB.out.cell (World.block_lt_of_cell? w _ ab5)).trans ab5;replace aiM:=eq_true aiM;replace aiN:=eq_true aiN;go_wp2_with (first|(go_at_call 142;(with_reducible refine (jl.calls (rd l0 sQ) afC _ A8.out).mono ?_);rintro e w' ⟨rfl,⟨nd,rfl⟩⟩;(try exact ⟨rfl,_,zN⟩)));repeat (go_quiet (first|(go_at_call 142;(with_reducible refine (jl.calls (rd l0 sQ) afC _ A8.out).mono ?_);rintro e w' ⟨rfl,⟨nd,rfl⟩⟩;(try exact ⟨rfl,_,zN⟩)));try go_wp2_with (first|(go_at_call 142;(with_reducible refine (jl.calls (rd l0 sQ) afC _ A8.out).mono ?_);rintro e w' ⟨rfl,⟨nd,rfl⟩⟩;(try exact ⟨rfl,_,zN⟩))))
          go_ret2;exact ⟨_,zS,by first|exact Kd.kQ _ _ _ _ _|exact Kd.qM _ _ _ _ _|exact Kd.oU _ _ _ _ _|exact Kd.qN _ _ _ _ _|exact Kd.qo _ _ _ _ _,zB⟩
         ·rw [if_neg c9] at H;have o8:=decide_eq_false c9;clear c9;have H':=aj.mk H;clear H;have aiM:0≤(sQ:Int):=of_decide_eq_true (by first|(with_reducible assumption)|assumption);have aiN:sQ < (l0.length:Int):=of_decide_eq_true (by first|(with_reducible assumption)|assumption);obtain ⟨aBM,auV,ab5⟩:=Kd.iY HR0.out sQ aiM aiN;cases auV;replace ab5:=(HB.out.cell (World.block_lt_of_cell? w _ ab5)).trans ab5;replace aiM:=eq_true aiM;replace aiN:=eq_true aiN;go_wp2_with (first|(go_at_call 142;(with_reducible refine (jl.calls (rd l0 sQ) afC _ A8.out).mono ?_);rintro e w' ⟨rfl,⟨nd,rfl⟩⟩;(try exact ⟨rfl,_,zN⟩)));repeat (go_quiet (first|(go_at_call 142;(with_reducible refine (jl.calls (rd l0 sQ) afC _ A8.out).mono ?_);rintro e w' ⟨rfl,⟨nd,rfl⟩⟩;(try exact ⟨rfl,_,zN⟩)));try go_wp2_with (first|(go_at_call 142;(with_reducible refine (jl.calls (rd l0 sQ) afC _ A8.out).mono ?_);rintro e w' ⟨rfl,⟨nd,rfl⟩⟩;(try exact ⟨rfl,_,zN⟩))))
          go_roundg k2
          case measure=>have:=HJ1.out;have:=HK2.out;omega
          case rel=>exact ⟨(wrap64 (sQ+1)),zT,H',⟨by have:=HJ1.out;have:=HK2.out;omega⟩,⟨zB⟩⟩
        ·rw [if_neg c7] at H;exact absurd H (by simp)
       ·rw [if_neg c6] at H;exact absurd H (by simp)
      ·rw [if_neg c5] at H;have gJ:=decide_eq_false c5;clear c5;replace H:=zO H;obtain ⟨sO,A10,H⟩:=H;try dsimp only at H
       by_cases c11:sO < 268435456
       ·rw [if_pos c11] at H;have jv:=decide_eq_true c11;clear c11;simp only [Option.some.injEq,Prod.mk.injEq] at H;obtain ⟨rfl,rfl⟩:=H;go_wp2_with (first|(go_at_call 143;(with_reducible refine (fO.calls k2 _ _ l0 sO _ ?iC ?iD A10.out).mono ?_);(case iC=>repeat (first|exact (Kd.bF HR0.out HB.out)|(with_reducible refine Kd.iT ?_ _)|(with_reducible refine Kd.jg ?_ _)|(with_reducible refine Kd.jH ?_)));(case iD=>exact HC0.out);rintro e w' ⟨rfl,⟨nd,rfl⟩⟩;(try exact ⟨rfl,_,zN⟩)));repeat (go_quiet (first|(go_at_call 143;(with_reducible refine (fO.calls k2 _ _ l0 sO _ ?iC ?iD A10.out).mono ?_);(case iC=>repeat (first|exact (Kd.bF HR0.out HB.out)|(with_reducible refine Kd.iT ?_ _)|(with_reducible refine Kd.jg ?_ _)|(with_reducible refine Kd.jH ?_)));(case iD=>exact HC0.out);rintro e w' ⟨rfl,⟨nd,rfl⟩⟩;(try exact ⟨rfl,_,zN⟩)));try go_wp2_with (first|(go_at_call 143;(with_reducible refine (fO.calls k2 _ _ l0 sO _ ?iC ?iD A10.out).mono ?_);(case iC=>repeat (first|exact (Kd.bF HR0.out HB.out)|(with_reducible refine Kd.iT ?_ _)|(with_reducible refine Kd.jg ?_ _)|(with_reducible refine Kd.jH ?_)));(case iD=>exact HC0.out);rintro e w' ⟨rfl,⟨nd,rfl⟩⟩;(try exact ⟨rfl,_,zN⟩))))
        go_ret2;exact ⟨_,zS,by first|exact Kd.kQ _ _ _ _ _|exact Kd.qM _ _ _ _ _|exact Kd.oU _ _ _ _ _|exact Kd.qN _ _ _ _ _|exact Kd.qo _ _ _ _ _,zB⟩
       ·rw [if_neg c11] at H;have jv:=decide_eq_false c11;clear c11;have H':=aj.mk H;clear H;go_wp2_with (first|(go_at_call 143;(with_reducible refine (fO.calls k2 _ _ l0 sO _ ?iC ?iD A10.out).mono ?_);(case iC=>repeat (first|exact (Kd.bF HR0.out HB.out)|(with_reducible refine Kd.iT ?_ _)|(with_reducible refine Kd.jg ?_ _)|(with_reducible refine Kd.jH ?_)));(case iD=>exact HC0.out);rintro e w' ⟨rfl,⟨nd,rfl⟩⟩;(try exact ⟨rfl,_,zN⟩)));repeat (go_quiet (first|(go_at_call 143;(with_reducible refine (fO.calls k2 _ _ l0 sO _ ?iC ?iD A10.out).mono ?_);(case iC=>repeat (first|exact (Kd.bF HR0.out HB.out)|(with_reducible refine Kd.iT ?_ _)|(with_reducible refine Kd.jg ?_ _)|(with_reducible refine Kd.jH ?_)));(case iD=>exact HC0.out);rintro e w' ⟨rfl,⟨nd,rfl⟩⟩;(try exact ⟨rfl,_,zN⟩)));try go_wp2_with (first|(go_at_call 143;(with_reducible refine (fO.calls k2 _ _ l0 sO _ ?iC ?iD A10.out).mono ?_);(case iC=>repeat (first|exact (Kd.bF HR0.out HB.out)|(with_reducible refine Kd.iT ?_ _)|(with_reducible refine Kd.jg ?_ _)|(with_reducible refine Kd.jH ?_)));(case iD=>exact HC0.out);rintro e w' ⟨rfl,⟨nd,rfl⟩⟩;(try exact ⟨rfl,_,zN⟩))))
        try simp only [Act.put,List.setIfInBounds_toArray,List.set_cons_succ,List.set_cons_zero]
        go_loopg [7,8,9,39] k2 (fun kq v7 v8 v9 v39 w'=>∃ (vT:List Int) (adP:List Int) (aiO:Int) (qC:Int),v9 = .int .i64 aiO∧v39 = .int .i64 qC∧aj (aG.l1 kq sO vT adP aiO l0 (l0.length:Int) qC=some (r1,r2))∧aj (kq≤k2)∧aj (Kd.R (Kd.int .i64) 2 w' w.heap.size (fun k_=>some k_≠(v8:Value).ownBlock) v7 vT)∧aj (Kd.R (Kd.int .i64) 2 w' w.heap.size (fun k_=>some k_≠(v7:Value).ownBlock) v8 adP)∧aj (Below w.heap.size w w'))
        case atStart=>exact ⟨(([]:List Int)),(([]:List Int)),(16384),(0),zT,zT,H',⟨Nat.le_refl _⟩,⟨by first|exact Kd.kQ _ _ _ _ _|exact Kd.qM _ _ _ _ _|exact Kd.oU _ _ _ _ _|exact Kd.qN _ _ _ _ _|exact Kd.qo _ _ _ _ _⟩,⟨by first|exact Kd.kQ _ _ _ _ _|exact Kd.qM _ _ _ _ _|exact Kd.oU _ _ _ _ _|exact Kd.qN _ _ _ _ _|exact Kd.qo _ _ _ _ _⟩,⟨zB⟩⟩
        case round =>
         clear H';try clear hx3
         obtain ⟨vT,adP,aiO,qC,rfl,rfl,HA,HK3,kF,dZ,HB⟩:=hrel;cases gk with
         | zero=>exact absurd HA.out (by simp [aG.l1])
         | succ k3 =>
          have H:=HA.out;clear HA;simp only [aG.l1] at H;by_cases c12:qC < (l0.length:Int)
          ·rw [if_pos c12] at H;have yL:=decide_eq_true c12;clear c12;by_cases c13:0≤qC
           ·rw [if_pos c13] at H;have zQ:=decide_eq_true c13;clear c13;by_cases c14:qC < (l0.length:Int)
            ·rw [if_pos c14] at H;have acn:=decide_eq_true c14;clear c14;replace H:=zO H;obtain ⟨su,A15,H⟩:=H;try dsimp only at H
             by_cases c16:vT.length < 17592186044416
             ·rw [if_pos c16] at H;have arF:=aj.mk c16;clear c16;obtain ⟨auW,ajW⟩:∃ y_:List Int,y_=(vT ++ [su]):=⟨_,rfl⟩;replace H:(if adP.length < 17592186044416 then (aG.l1 k3 sO auW (adP ++ [wrap64 ((wrap64 ((rd l0 qC)*16384)) - (wrap64 (su*sO)))]) (wrap64 (aiO - su)) l0 (l0.length:Int) (wrap64 (qC+1))) else (none))=some (r1,r2):=(by first|(rw [ajW];with_reducible exact H)|(have H2_:=(Option.bind_some _ _).symm.trans H;rw [ajW];with_reducible exact H2_)|(have H2_:=(Option.bind_some _ _).symm.trans H;with_reducible exact H2_)|with_reducible exact H|(rw [ajW];exact H)|exact H);have arG:=aj.mk ajW;clear ajW;by_cases c17:adP.length < 17592186044416
              ·rw [if_pos c17] at H;have arH:=aj.mk c17;clear c17;obtain ⟨azj,ajX⟩:∃ y_:List Int,y_=(adP ++ [wrap64 ((wrap64 ((rd l0 qC)*16384)) - (wrap64 (su*sO)))]):=⟨_,rfl⟩;replace H:(aG.l1 k3 sO auW azj (wrap64 (aiO - su)) l0 (l0.length:Int) (wrap64 (qC+1)))=some (r1,r2):=(by first|(rw [ajX];with_reducible exact H)|(have H2_:=(Option.bind_some _ _).symm.trans H;rw [ajX];with_reducible exact H2_)|(have H2_:=(Option.bind_some _ _).symm.trans H;with_reducible exact H2_)|with_reducible exact H|(rw [ajX];exact H)|exact H);have arI:=aj.mk ajX;clear ajX;have H':=aj.mk H;clear H;have auX:0≤(qC:Int):=of_decide_eq_true (by first|(with_reducible assumption)|assumption);have auY:qC < (l0.length:Int):=of_decide_eq_true (by first|(with_reducible assumption)|assumption);obtain ⟨aHD,aC8,ala⟩:=Kd.iY HR0.out qC auX auY;cases aC8;replace ala:=(HB.out.cell (World.block_lt_of_cell? w _ ala)).trans ala;replace auX:=eq_true auX;replace auY:=eq_true auY;go_wp2_with (first|(go_at_call 144;(with_reducible refine (fD.calls k3 (wrap64 ((rd l0 qC)*16384)) sO su _ A15.out).mono ?_);rintro e w18 ⟨rfl,hb⟩;obtain ⟨kF,dZ,HB⟩:=zA3 (Kd.jE (by (with_reducible repeat (first|apply Kd.aJ|apply Kd.aN|apply Kd.aV));exact kF.out) hb) (Kd.jE (by (with_reducible repeat (first|apply Kd.aJ|apply Kd.aN|apply Kd.aV));exact dZ.out) hb) (ak zB hb);(try clear hb))|((with_reducible refine kR (b := .append) (xs := #[.tmp 47,.tmp 49]) rfl ?_);(try (refine lV (by rfl) ?_;dsimp only));at_builtin;refine Kd.lU (Kd.int .i64) (w0:=w) w.heap.size rfl (.tmp 47) (.tmp 49) 44 2 (.int .i64 0) 8 rfl Tryz.underlying44 yD rfl (by decide) (by omega) u7 vT su [.int .i64 su] (fun k_=>some k_≠(u8:Value).ownBlock) (fun _=>False) rfl rfl ?aP (fun _ hk=>hk.elim) ?aF ?aO ?aB ?aS ?aL ?_;(case aP=>exact rfl);(case aB=>exact zB);(case aF=>exact (fun k_ hk=>Kd.fresh' (Kd.mY (by (with_reducible repeat (first|apply Kd.aJ|apply Kd.aN|apply Kd.aV));exact dZ.out)) k_ hk));(case aO=>exact (by (with_reducible repeat (first|apply Kd.aJ|apply Kd.aN|apply Kd.aV));exact kF.out));(case aS=>exact (bW zB));(case aL=>have:=arF.out;omega);intro aov w19 ho hb hg hat;rw [← arG.out] at ho;obtain ⟨dZ,HB,aaD⟩:=zA3 (Kd.uG (ok:=(fun _=>True)) (by (with_reducible repeat (first|apply Kd.aJ|apply Kd.aN|apply Kd.aV));exact Kd.dY dZ.out (fun _ hk=>⟨trivial,hk⟩)) hg hat) hb ho;clear ho hb hg hat)|((with_reducible refine kR (b := .append) (xs := #[.tmp 51,.tmp 58]) rfl ?_);(try (refine lV (by rfl) ?_;dsimp only));at_builtin;refine Kd.lU (Kd.int .i64) (w0:=w) w.heap.size rfl (.tmp 51) (.tmp 58) 44 2 (.int .i64 0) 8 rfl Tryz.underlying44 yD rfl (by decide) (by omega) u8 adP (wrap64 ((wrap64 ((rd l0 qC)*16384)) - (wrap64 (su*sO)))) [.int .i64 (wrap64 ((wrap64 ((rd l0 qC)*16384)) - (wrap64 (su*sO))))] (fun k_=>some k_≠(aov:Value).ownBlock) (fun _=>False) rfl rfl ?aP (fun _ hk=>hk.elim) ?aF ?aO ?aB ?aS ?aL ?_;(case aP=>exact rfl);(case aB=>exact zB);(case aF=>exact (fun k_ hk=>Kd.fresh' (Kd.mY (by (with_reducible repeat (first|apply Kd.aJ|apply Kd.aN|apply Kd.aV));exact aaD.out)) k_ hk));(case aO=>exact (by (with_reducible repeat (first|apply Kd.aJ|apply Kd.aN|apply Kd.aV));exact Kd.dY dZ.out (fun _ hk=>hk.2)));(case aS=>exact (bW zB));(case aL=>have:=arH.out;omega);intro azk w20 ho hb hg hat;rw [← arI.out] at ho;obtain ⟨aaD,HB,arJ⟩:=zA3 (Kd.uG (ok:=(fun _=>True)) (by (with_reducible repeat (first|apply Kd.aJ|apply Kd.aN|apply Kd.aV));exact Kd.dY aaD.out (fun _ hk=>⟨trivial,hk⟩)) hg hat) hb ho;clear ho hb hg hat));repeat (go_quiet (first|(go_at_call 144;(with_reducible refine (fD.calls k3 (wrap64 ((rd l0 qC)*16384)) sO su _ A15.out).mono ?_);rintro e w18 ⟨rfl,hb⟩;obtain ⟨kF,dZ,HB⟩:=zA3 (Kd.jE (by (with_reducible repeat (first|apply Kd.aJ|apply Kd.aN|apply Kd.aV));exact kF.out) hb) (Kd.jE (by (with_reducible repeat (first|apply Kd.aJ|apply Kd.aN|apply Kd.aV));exact dZ.out) hb) (ak zB hb);(try clear hb))|((with_reducible refine kR (b := .append) (xs := #[.tmp 47,.tmp 49]) rfl ?_);(try (refine lV (by rfl) ?_;dsimp only));at_builtin;refine Kd.lU (Kd.int .i64) (w0:=w) w.heap.size rfl (.tmp 47) (.tmp 49) 44 2 (.int .i64 0) 8 rfl Tryz.underlying44 yD rfl (by decide) (by omega) u7 vT su [.int .i64 su] (fun k_=>some k_≠(u8:Value).ownBlock) (fun _=>False) rfl rfl ?aP (fun _ hk=>hk.elim) ?aF ?aO ?aB ?aS ?aL ?_;(case aP=>exact rfl);(case aB=>exact zB);(case aF=>exact (fun k_ hk=>Kd.fresh' (Kd.mY (by (with_reducible repeat (first|apply Kd.aJ|apply Kd.aN|apply Kd.aV));exact dZ.out)) k_ hk));(case aO=>exact (by (with_reducible repeat (first|apply Kd.aJ|apply Kd.aN|apply Kd.aV));exact kF.out));(case aS=>exact (bW zB));(case aL=>have:=arF.out;omega);intro aov w19 ho hb hg hat;rw [← arG.out] at ho;obtain ⟨dZ,HB,aaD⟩:=zA3 (Kd.uG (ok:=(fun _=>True)) (by (with_reducible repeat (first|apply Kd.aJ|apply Kd.aN|apply Kd.aV));exact Kd.dY dZ.out (fun _ hk=>⟨trivial,hk⟩)) hg hat) hb ho;clear ho hb hg hat)|((with_reducible refine kR (b := .append) (xs := #[.tmp 51,.tmp 58]) rfl ?_);(try (refine lV (by rfl) ?_;dsimp only));at_builtin;refine Kd.lU (Kd.int .i64) (w0:=w) w.heap.size rfl (.tmp 51) (.tmp 58) 44 2 (.int .i64 0) 8 rfl Tryz.underlying44 yD rfl (by decide) (by omega) u8 adP (wrap64 ((wrap64 ((rd l0 qC)*16384)) - (wrap64 (su*sO)))) [.int .i64 (wrap64 ((wrap64 ((rd l0 qC)*16384)) - (wrap64 (su*sO))))] (fun k_=>some k_≠(aov:Value).ownBlock) (fun _=>False) rfl rfl ?aP (fun _ hk=>hk.elim) ?aF ?aO ?aB ?aS ?aL ?_;(case aP=>exact rfl);(case aB=>exact zB);(case aF=>exact (fun k_ hk=>Kd.fresh' (Kd.mY (by (with_reducible repeat (first|apply Kd.aJ|apply Kd.aN|apply Kd.aV));exact aaD.out)) k_ hk));(case aO=>exact (by (with_reducible repeat (first|apply Kd.aJ|apply Kd.aN|apply Kd.aV));exact Kd.dY dZ.out (fun _ hk=>hk.2)));(case aS=>exact (bW zB));(case aL=>have:=arH.out;omega);intro azk w20 ho hb hg hat;rw [← arI.out] at ho;obtain ⟨aaD,HB,arJ⟩:=zA3 (Kd.uG (ok:=(fun _=>True)) (by (with_reducible repeat (first|apply Kd.aJ|apply Kd.aN|apply Kd.aV));exact Kd.dY aaD.out (fun _ hk=>⟨trivial,hk⟩)) hg hat) hb ho;clear ho hb hg hat));try go_wp2_with (first|(go_at_call 144;(with_reducible refine (fD.calls k3 (wrap64 ((rd l0 qC)*16384)) sO su _ A15.out).mono ?_);rintro e w18 ⟨rfl,hb⟩;obtain ⟨kF,dZ,HB⟩:=zA3 (Kd.jE (by (with_reducible repeat (first|apply Kd.aJ|apply Kd.aN|apply Kd.aV));exact kF.out) hb) (Kd.jE (by (with_reducible repeat (first|apply Kd.aJ|apply Kd.aN|apply Kd.aV));exact dZ.out) hb) (ak zB hb);(try clear hb))|((with_reducible refine kR (b := .append) (xs := #[.tmp 47,.tmp 49]) rfl ?_);(try (refine lV (by rfl) ?_;dsimp only));at_builtin;refine Kd.lU (Kd.int .i64) (w0:=w) w.heap.size rfl (.tmp 47) (.tmp 49) 44 2 (.int .i64 0) 8 rfl Tryz.underlying44 yD rfl (by decide) (by omega) u7 vT su [.int .i64 su] (fun k_=>some k_≠(u8:Value).ownBlock) (fun _=>False) rfl rfl ?aP (fun _ hk=>hk.elim) ?aF ?aO ?aB ?aS ?aL ?_;(case aP=>exact rfl);(case aB=>exact zB);(case aF=>exact (fun k_ hk=>Kd.fresh' (Kd.mY (by (with_reducible repeat (first|apply Kd.aJ|apply Kd.aN|apply Kd.aV));exact dZ.out)) k_ hk));(case aO=>exact (by (with_reducible repeat (first|apply Kd.aJ|apply Kd.aN|apply Kd.aV));exact kF.out));(case aS=>exact (bW zB));(case aL=>have:=arF.out;omega);intro aov w19 ho hb hg hat;rw [← arG.out] at ho;obtain ⟨dZ,HB,aaD⟩:=zA3 (Kd.uG (ok:=(fun _=>True)) (by (with_reducible repeat (first|apply Kd.aJ|apply Kd.aN|apply Kd.aV));exact Kd.dY dZ.out (fun _ hk=>⟨trivial,hk⟩)) hg hat) hb ho;clear ho hb hg hat)|((with_reducible refine kR (b := .append) (xs := #[.tmp 51,.tmp 58]) rfl ?_);(try (refine lV (by rfl) ?_;dsimp only));at_builtin;refine Kd.lU (Kd.int .i64) (w0:=w) w.heap.size rfl (.tmp 51) (.tmp 58) 44 2 (.int .i64 0) 8 rfl Tryz.underlying44 yD rfl (by decide) (by omega) u8 adP (wrap64 ((wrap64 ((rd l0 qC)*16384)) - (wrap64 (su*sO)))) [.int .i64 (wrap64 ((wrap64 ((rd l0 qC)*16384)) - (wrap64 (su*sO))))] (fun k_=>some k_≠(aov:Value).ownBlock) (fun _=>False) rfl rfl ?aP (fun _ hk=>hk.elim) ?aF ?aO ?aB ?aS ?aL ?_;(case aP=>exact rfl);(case aB=>exact zB);(case aF=>exact (fun k_ hk=>Kd.fresh' (Kd.mY (by (with_reducible repeat (first|apply Kd.aJ|apply Kd.aN|apply Kd.aV));exact aaD.out)) k_ hk));(case aO=>exact (by (with_reducible repeat (first|apply Kd.aJ|apply Kd.aN|apply Kd.aV));exact Kd.dY dZ.out (fun _ hk=>hk.2)));(case aS=>exact (bW zB));(case aL=>have:=arH.out;omega);intro azk w20 ho hb hg hat;rw [← arI.out] at ho;obtain ⟨aaD,HB,arJ⟩:=zA3 (Kd.uG (ok:=(fun _=>True)) (by (with_reducible repeat (first|apply Kd.aJ|apply Kd.aN|apply Kd.aV));exact Kd.dY aaD.out (fun _ hk=>⟨trivial,hk⟩)) hg hat) hb ho;clear ho hb hg hat)))
               go_roundg k3
               case measure=>have:=HJ1.out;have:=HK2.out;have:=HK3.out;omega
               case rel=>exact ⟨(auW),(azj),(wrap64 (aiO - su)),(wrap64 (qC+1)),zT,zT,H',⟨by have:=HJ1.out;have:=HK2.out;have:=HK3.out;omega⟩,⟨by (with_reducible repeat (first|apply Kd.aJ|apply Kd.aN|apply Kd.aV));exact Kd.dY aaD.out (fun _ hk=>hk.2)⟩,⟨by (with_reducible repeat (first|apply Kd.aJ|apply Kd.aN|apply Kd.aV));exact arJ.out⟩,⟨zB⟩⟩
              ·rw [if_neg c17] at H;exact absurd H (by simp)
             ·rw [if_neg c16] at H;exact absurd H (by simp)
            ·rw [if_neg c14] at H;exact absurd H (by simp)
           ·rw [if_neg c13] at H;exact absurd H (by simp)
          ·rw [if_neg c12] at H;have yL:=decide_eq_false c12;clear c12;have H':=aj.mk H;clear H;go_wp2;repeat (go_quiet (fail);try go_wp2)
           try simp only [Act.put,List.setIfInBounds_toArray,List.set_cons_succ,List.set_cons_zero]
           go_loopg [9] k3 (fun kq v9 w'=>∃ (nJ:List Int) (ng:List Int) (ahd:Int),v9 = .int .i64 ahd∧aj (aG.l2 kq nJ ng ahd=some (r1,r2))∧aj (kq≤k3)∧aj (Kd.R (Kd.int .i64) 2 w' w.heap.size (fun k_=>some k_≠(u8:Value).ownBlock) u7 nJ)∧aj (Kd.R (Kd.int .i64) 2 w' w.heap.size (fun k_=>some k_≠(u7:Value).ownBlock) u8 ng)∧aj (Below w.heap.size w w'))
           case atStart=>exact ⟨(vT),(adP),(aiO),zT,H',⟨Nat.le_refl _⟩,⟨by (with_reducible repeat (first|apply Kd.aJ|apply Kd.aN|apply Kd.aV));exact kF.out⟩,⟨by (with_reducible repeat (first|apply Kd.aJ|apply Kd.aN|apply Kd.aV));exact dZ.out⟩,⟨zB⟩⟩
           case round =>
            clear H';try clear hx3
            obtain ⟨nJ,ng,ahd,rfl,HA,HK4,kF,dZ,HB⟩:=hrel;cases gk with
            | zero=>exact absurd HA.out (by simp [aG.l2])
            | succ k4 =>
             have H:=HA.out;clear HA;simp only [aG.l2] at H;by_cases c21:ahd > 0
             ·rw [if_pos c21] at H;have afD:=decide_eq_true c21;clear c21;have H':=aj.mk H;clear H;obtain ⟨aiP,aak,auZ⟩:=Kd.fP dZ.out;subst auZ;go_wp2;repeat (go_quiet (fail);try go_wp2)
              try simp only [Act.put,List.setIfInBounds_toArray,List.set_cons_succ,List.set_cons_zero]
              go_loopg [13,68] k4 (fun kq v13 v68 w'=>∃ (gG:Int) (wB:Int),v13 = .int .i64 gG∧v68 = .int .i64 wB∧aj (aG.l3 kq nJ ng ahd gG (ng.length:Int) wB=some (r1,r2))∧aj (kq≤k4)∧aj (Kd.R (Kd.int .i64) 2 w' w.heap.size (fun k_=>some k_≠((.slice aiP ng.length aak):Value).ownBlock) u7 nJ)∧aj (Kd.R (Kd.int .i64) 2 w' w.heap.size (fun k_=>some k_≠(u7:Value).ownBlock) (.slice aiP ng.length aak) ng)∧aj (Below w.heap.size w w'))
              case atStart=>exact ⟨(0),(0),zT,zT,H',⟨Nat.le_refl _⟩,⟨by (with_reducible repeat (first|apply Kd.aJ|apply Kd.aN|apply Kd.aV));exact kF.out⟩,⟨by (with_reducible repeat (first|apply Kd.aJ|apply Kd.aN|apply Kd.aV));exact dZ.out⟩,⟨zB⟩⟩
              case round =>
               clear H';try clear hx3
               obtain ⟨gG,wB,rfl,rfl,HA,HK5,kF,dZ,HB⟩:=hrel;cases gk with
               | zero=>exact absurd HA.out (by simp [aG.l3])
               | succ k5 =>
                have H:=HA.out;clear HA;simp only [aG.l3] at H;by_cases c23:wB < (ng.length:Int)
                ·rw [if_pos c23] at H;have ajY:=decide_eq_true c23;clear c23;by_cases c24:0≤wB
                 ·rw [if_pos c24] at H;have axa:=decide_eq_true c24;clear c24;by_cases c25:wB < (ng.length:Int)
                  ·rw [if_pos c25] at H;have aBN:=decide_eq_true c25;clear c25;by_cases c26:0≤gG
                   ·rw [if_pos c26] at H;have afE:=decide_eq_true c26;clear c26;by_cases c27:gG < (ng.length:Int)
                    ·rw [if_pos c27] at H;have arK:=decide_eq_true c27;clear c27;by_cases c28:(rd ng wB) > (rd ng gG)
                     ·rw [if_pos c28] at H;have arL:=decide_eq_true c28;clear c28;have H':=aj.mk H;clear H;have aiQ:0≤(wB:Int):=of_decide_eq_true (by first|(with_reducible assumption)|assumption);have aiR:wB < (ng.length:Int):=of_decide_eq_true (by first|(with_reducible assumption)|assumption);obtain ⟨arM,au0,ax2⟩:=Kd.iY (Kd.dK dZ.out).2.2 wB aiQ aiR;cases au0;replace aiQ:=eq_true aiQ;replace aiR:=eq_true aiR;have aiS:0≤(gG:Int):=of_decide_eq_true (by first|(with_reducible assumption)|assumption);have aiT:gG < (ng.length:Int):=of_decide_eq_true (by first|(with_reducible assumption)|assumption);obtain ⟨arN,au1,ax3⟩:=Kd.iY (Kd.dK dZ.out).2.2 gG aiS aiT;obtain rfl:arM=arN:=(by injection au1);replace aiS:=eq_true aiS;replace aiT:=eq_true aiT;go_wp2;repeat (go_quiet (fail);try go_wp2)
                      go_roundg k5
                      case measure=>have:=HJ1.out;have:=HK2.out;have:=HK3.out;have:=HK4.out;have:=HK5.out;omega
                      case rel=>exact ⟨(wB),(wrap64 (wB+1)),zT,zT,H',⟨by have:=HJ1.out;have:=HK2.out;have:=HK3.out;have:=HK4.out;have:=HK5.out;omega⟩,⟨by (with_reducible repeat (first|apply Kd.aJ|apply Kd.aN|apply Kd.aV));exact kF.out⟩,⟨by (with_reducible repeat (first|apply Kd.aJ|apply Kd.aN|apply Kd.aV));exact dZ.out⟩,⟨zB⟩⟩
                     ·rw [if_neg c28] at H;have arL:=decide_eq_false c28;clear c28;have H':=aj.mk H;clear H;have aiQ:0≤(wB:Int):=of_decide_eq_true (by first|(with_reducible assumption)|assumption);have aiR:wB < (ng.length:Int):=of_decide_eq_true (by first|(with_reducible assumption)|assumption);obtain ⟨arM,au0,ax2⟩:=Kd.iY (Kd.dK dZ.out).2.2 wB aiQ aiR;cases au0;replace aiQ:=eq_true aiQ;replace aiR:=eq_true aiR;have aiS:0≤(gG:Int):=of_decide_eq_true (by first|(with_reducible assumption)|assumption);have aiT:gG < (ng.length:Int):=of_decide_eq_true (by first|(with_reducible assumption)|assumption);obtain ⟨arN,au1,ax3⟩:=Kd.iY (Kd.dK dZ.out).2.2 gG aiS aiT;obtain rfl:arM=arN:=(by injection au1);replace aiS:=eq_true aiS;replace aiT:=eq_true aiT;go_wp2;repeat (go_quiet (fail);try go_wp2)
                      go_roundg k5
                      case measure=>have:=HJ1.out;have:=HK2.out;have:=HK3.out;have:=HK4.out;have:=HK5.out;omega
                      case rel=>exact ⟨(gG),(wrap64 (wB+1)),zT,zT,H',⟨by have:=HJ1.out;have:=HK2.out;have:=HK3.out;have:=HK4.out;have:=HK5.out;omega⟩,⟨by (with_reducible repeat (first|apply Kd.aJ|apply Kd.aN|apply Kd.aV));exact kF.out⟩,⟨by (with_reducible repeat (first|apply Kd.aJ|apply Kd.aN|apply Kd.aV));exact dZ.out⟩,⟨zB⟩⟩
                    ·rw [if_neg c27] at H;exact absurd H (by simp)
                   ·rw [if_neg c26] at H;exact absurd H (by simp)
                  ·rw [if_neg c25] at H;exact absurd H (by simp)
                 ·rw [if_neg c24] at H;exact absurd H (by simp)
                ·rw [if_neg c23] at H;have ajY:=decide_eq_false c23;clear c23;by_cases c29:0≤gG
                 ·rw [if_pos c29] at H;have ari:=decide_eq_true c29;clear c29;by_cases c30:gG < (nJ.length:Int)
                  ·rw [if_pos c30] at H;have aw7:=decide_eq_true c30;clear c30;obtain ⟨alb,ajZ⟩:∃ y_:List Int,y_=(nJ.set (gG:Int).toNat (wrap64 ((rd nJ gG)+1))):=⟨_,rfl⟩;replace H:(if gG < (ng.length:Int) then (aG.l2 k5 alb (ng.set (gG:Int).toNat (-1)) (wrap64 (ahd - 1))) else (none))=some (r1,r2):=(by first|(rw [ajZ];with_reducible exact H)|(have H2_:=(Option.bind_some _ _).symm.trans H;rw [ajZ];with_reducible exact H2_)|(have H2_:=(Option.bind_some _ _).symm.trans H;with_reducible exact H2_)|with_reducible exact H|(rw [ajZ];exact H)|exact H);have arO:=aj.mk ajZ;clear ajZ;by_cases c32:gG < (ng.length:Int)
                   ·rw [if_pos c32] at H;have aHE:=decide_eq_true c32;clear c32;obtain ⟨aow,aj0⟩:∃ y_:List Int,y_=(ng.set (gG:Int).toNat (-1)):=⟨_,rfl⟩;replace H:(aG.l2 k5 alb aow (wrap64 (ahd - 1)))=some (r1,r2):=(by first|(rw [aj0];with_reducible exact H)|(have H2_:=(Option.bind_some _ _).symm.trans H;rw [aj0];with_reducible exact H2_)|(have H2_:=(Option.bind_some _ _).symm.trans H;with_reducible exact H2_)|with_reducible exact H|(rw [aj0];exact H)|exact H);have arP:=aj.mk aj0;clear aj0;have H':=aj.mk H;clear H;obtain ⟨aC9,xK,au2⟩:=Kd.fP kF.out;subst au2;have au3:0≤(gG:Int):=of_decide_eq_true (by first|(with_reducible assumption)|assumption);have au4:gG < (nJ.length:Int):=of_decide_eq_true (by first|(with_reducible assumption)|assumption);obtain ⟨aHF,aDa,ax4⟩:=Kd.iY (Kd.dK kF.out).2.2 gG au3 au4;cases aDa;replace au3:=eq_true au3;replace au4:=eq_true au4;have p31:0≤(gG:Int):=of_decide_eq_true (by first|(with_reducible assumption)|assumption);have q31:(gG:Int) < ((nJ.length:Int):Int):=of_decide_eq_true (by first|(with_reducible assumption)|assumption);obtain ⟨sS,aII,azl,azm,aDb,aIJ,azn⟩:=Kd.aeV kF.out (by omega)
                    (first|cases azl|(injection azl with ea_ en_ ec_;(first|subst ea_|(injection ea_ with ea_;subst ea_));subst ec_;clear en_))
                    have au5:=aj.mk azm;have aIK:=aj.mk azn;clear azm aDb azn
                    (first|simp only [add_plain] at ax4|skip)
                    obtain ⟨aFw,aFx⟩:=Kd.xZ 0 kF.out (gG:Int) p31 q31;replace p31:=eq_true p31;replace q31:=eq_true q31;have acX:=Kd.aat kF.out (gG:Int) (wrap64 ((rd nJ gG)+1));go_wp2_with (first|((with_reducible refine zC (t:=2) (p:=87) rfl ?_);(try (rw [qp wr];generalize hq_:World.drewN wr _=wr;obtain ⟨kF,dZ,HB⟩:=zA3 (Kd.adQ hq_ kF.out) (Kd.adQ hq_ dZ.out) (adR hq_ HB.out);(try (have acX:=Kd.aat kF.out (gG:Int) (wrap64 ((rd nJ gG)+1))))));refine yc (t:=2) (p:=87) (v := ?ata) (w1:=(wr.setCell ⟨sS,(gG:Int).toNat,none⟩ (.int .i64 (wrap64 ((rd nJ gG)+1))))) ?hg ?ho ?hn ?hr ?_;(case ho=>rfl);(case hg=>rfl);(case hn=>rfl);(case hr=>first|(go_simp;done)|(go_simp;rfl));intro w36 hw;have hg:wr.grownBy w36 (some sS):=(by rw [hw];exact acX.2);have hp_:Kd.R (Kd.int .i64) 2 w36 w.heap.size (fun k_=>some k_≠(.slice aiP ng.length aak:Value).ownBlock) (.slice (some ⟨sS,0,none⟩) nJ.length xK) alb:=(by rw [hw,arO.out];exact acX.1);clear acX;obtain ⟨kF,dZ,HB⟩:=zA3 hp_ (Kd.uG (v:=(.slice (some ⟨sS,0,none⟩) nJ.length xK)) (v1:=(.slice (some ⟨sS,0,none⟩) nJ.length xK)) (ok:=(fun _=>True)) (by (with_reducible repeat (first|apply Kd.aJ|apply Kd.aN|apply Kd.aV));exact Kd.dY dZ.out (fun _ hk=>⟨trivial,hk⟩)) hg (.inl rfl)) ((by rw [hw];exact uJ (HB.out) au5.out:Below w.heap.size w w36));clear hg hw hp_;have p33:0≤(gG:Int):=of_decide_eq_true (by first|(with_reducible assumption)|assumption);have q33:(gG:Int) < ((ng.length:Int):Int):=of_decide_eq_true (by first|(with_reducible assumption)|assumption);obtain ⟨yZ,au6,aeK,ahe,aox,azo,ahf⟩:=Kd.aeV dZ.out (by omega);(first|cases aeK|(injection aeK with ea_ en_ ec_;(first|subst ea_|(injection ea_ with ea_;subst ea_));subst ec_;clear en_));have aoy:=aj.mk ahe;have azp:=aj.mk ahf;clear ahe aox ahf;obtain ⟨atb,atc⟩:=Kd.xZ 0 dZ.out (gG:Int) p33 q33;replace p33:=eq_true p33;replace q33:=eq_true q33;have n_:=aj.mk (Kd.dY (ok':=(fun k_=>some k_≠(.slice (some ⟨sS,0,none⟩) nJ.length xK:Value).ownBlock)) dZ.out (fun k_ hk=>hk.2));clear dZ;have dZ:=n_;clear n_;obtain ⟨aj1,aj2⟩:=Kd.xZ 0 dZ.out (gG:Int) (of_decide_eq_true (by first|(with_reducible assumption)|assumption)) (of_decide_eq_true (by first|(with_reducible assumption)|assumption));have abz:=Kd.aat dZ.out (gG:Int) (-1))|((with_reducible refine zC (t:=2) (p:=90) rfl ?_);(try (rw [qp w36];generalize hq_:World.drewN w36 _=w36;obtain ⟨kF,dZ,HB⟩:=zA3 (Kd.adQ hq_ kF.out) (Kd.adQ hq_ dZ.out) (adR hq_ HB.out);(try (have n_:=aj.mk (Kd.dY (ok':=(fun k_=>some k_≠(.slice (some ⟨sS,0,none⟩) nJ.length xK:Value).ownBlock)) dZ.out (fun k_ hk=>hk.2));clear dZ;have dZ:=n_;clear n_));(try (obtain ⟨aj1,aj2⟩:=Kd.xZ 0 dZ.out (gG:Int) (of_decide_eq_true (by first|(with_reducible assumption)|assumption)) (of_decide_eq_true (by first|(with_reducible assumption)|assumption))));(try (have abz:=Kd.aat dZ.out (gG:Int) (-1)))));refine yc (t:=2) (p:=90) (v := ?atd) (w1:=(w36.setCell ⟨yZ,(gG:Int).toNat,none⟩ (.int .i64 (-1)))) ?hg ?ho ?hn ?hr ?_;(case ho=>rfl);(case hg=>rfl);(case hn=>rfl);(case hr=>first|(go_simp;done)|(go_simp;rfl));intro w38 hw;have hg:w36.grownBy w38 (some yZ):=(by rw [hw];exact abz.2);have hp_:Kd.R (Kd.int .i64) 2 w38 w.heap.size (fun k_=>some k_≠(.slice (some ⟨sS,0,none⟩) nJ.length xK:Value).ownBlock) (.slice (some ⟨yZ,0,none⟩) ng.length aak) aow:=(by rw [hw,arP.out];exact abz.1);clear abz;obtain ⟨kF,dZ,HB⟩:=zA3 (Kd.uG (v:=(.slice (some ⟨yZ,0,none⟩) ng.length aak)) (v1:=(.slice (some ⟨yZ,0,none⟩) ng.length aak)) (ok:=(fun _=>True)) (by (with_reducible repeat (first|apply Kd.aJ|apply Kd.aN|apply Kd.aV));exact Kd.dY kF.out (fun _ hk=>⟨trivial,hk⟩)) hg (.inl rfl)) hp_ ((by rw [hw];exact uJ (HB.out) aoy.out:Below w.heap.size w w38));clear hg hw hp_));repeat (go_quiet (first|((with_reducible refine zC (t:=2) (p:=87) rfl ?_);(try (rw [qp wr];generalize hq_:World.drewN wr _=wr;obtain ⟨kF,dZ,HB⟩:=zA3 (Kd.adQ hq_ kF.out) (Kd.adQ hq_ dZ.out) (adR hq_ HB.out);(try (have acX:=Kd.aat kF.out (gG:Int) (wrap64 ((rd nJ gG)+1))))));refine yc (t:=2) (p:=87) (v := ?ata) (w1:=(wr.setCell ⟨sS,(gG:Int).toNat,none⟩ (.int .i64 (wrap64 ((rd nJ gG)+1))))) ?hg ?ho ?hn ?hr ?_;(case ho=>rfl);(case hg=>rfl);(case hn=>rfl);(case hr=>first|(go_simp;done)|(go_simp;rfl));intro w36 hw;have hg:wr.grownBy w36 (some sS):=(by rw [hw];exact acX.2);have hp_:Kd.R (Kd.int .i64) 2 w36 w.heap.size (fun k_=>some k_≠(.slice aiP ng.length aak:Value).ownBlock) (.slice (some ⟨sS,0,none⟩) nJ.length xK) alb:=(by rw [hw,arO.out];exact acX.1);clear acX;obtain ⟨kF,dZ,HB⟩:=zA3 hp_ (Kd.uG (v:=(.slice (some ⟨sS,0,none⟩) nJ.length xK)) (v1:=(.slice (some ⟨sS,0,none⟩) nJ.length xK)) (ok:=(fun _=>True)) (by (with_reducible repeat (first|apply Kd.aJ|apply Kd.aN|apply Kd.aV));exact Kd.dY dZ.out (fun _ hk=>⟨trivial,hk⟩)) hg (.inl rfl)) ((by rw [hw];exact uJ (HB.out) au5.out:Below w.heap.size w w36));clear hg hw hp_;have p33:0≤(gG:Int):=of_decide_eq_true (by first|(with_reducible assumption)|assumption);have q33:(gG:Int) < ((ng.length:Int):Int):=of_decide_eq_true (by first|(with_reducible assumption)|assumption);obtain ⟨yZ,au6,aeK,ahe,aox,azo,ahf⟩:=Kd.aeV dZ.out (by omega);(first|cases aeK|(injection aeK with ea_ en_ ec_;(first|subst ea_|(injection ea_ with ea_;subst ea_));subst ec_;clear en_));have aoy:=aj.mk ahe;have azp:=aj.mk ahf;clear ahe aox ahf;obtain ⟨atb,atc⟩:=Kd.xZ 0 dZ.out (gG:Int) p33 q33;replace p33:=eq_true p33;replace q33:=eq_true q33;have n_:=aj.mk (Kd.dY (ok':=(fun k_=>some k_≠(.slice (some ⟨sS,0,none⟩) nJ.length xK:Value).ownBlock)) dZ.out (fun k_ hk=>hk.2));clear dZ;have dZ:=n_;clear n_;obtain ⟨aj1,aj2⟩:=Kd.xZ 0 dZ.out (gG:Int) (of_decide_eq_true (by first|(with_reducible assumption)|assumption)) (of_decide_eq_true (by first|(with_reducible assumption)|assumption));have abz:=Kd.aat dZ.out (gG:Int) (-1))|((with_reducible refine zC (t:=2) (p:=90) rfl ?_);(try (rw [qp w36];generalize hq_:World.drewN w36 _=w36;obtain ⟨kF,dZ,HB⟩:=zA3 (Kd.adQ hq_ kF.out) (Kd.adQ hq_ dZ.out) (adR hq_ HB.out);(try (have n_:=aj.mk (Kd.dY (ok':=(fun k_=>some k_≠(.slice (some ⟨sS,0,none⟩) nJ.length xK:Value).ownBlock)) dZ.out (fun k_ hk=>hk.2));clear dZ;have dZ:=n_;clear n_));(try (obtain ⟨aj1,aj2⟩:=Kd.xZ 0 dZ.out (gG:Int) (of_decide_eq_true (by first|(with_reducible assumption)|assumption)) (of_decide_eq_true (by first|(with_reducible assumption)|assumption))));(try (have abz:=Kd.aat dZ.out (gG:Int) (-1)))));refine yc (t:=2) (p:=90) (v := ?atd) (w1:=(w36.setCell ⟨yZ,(gG:Int).toNat,none⟩ (.int .i64 (-1)))) ?hg ?ho ?hn ?hr ?_;(case ho=>rfl);(case hg=>rfl);(case hn=>rfl);(case hr=>first|(go_simp;done)|(go_simp;rfl));intro w38 hw;have hg:w36.grownBy w38 (some yZ):=(by rw [hw];exact abz.2);have hp_:Kd.R (Kd.int .i64) 2 w38 w.heap.size (fun k_=>some k_≠(.slice (some ⟨sS,0,none⟩) nJ.length xK:Value).ownBlock) (.slice (some ⟨yZ,0,none⟩) ng.length aak) aow:=(by rw [hw,arP.out];exact abz.1);clear abz;obtain ⟨kF,dZ,HB⟩:=zA3 (Kd.uG (v:=(.slice (some ⟨yZ,0,none⟩) ng.length aak)) (v1:=(.slice (some ⟨yZ,0,none⟩) ng.length aak)) (ok:=(fun _=>True)) (by (with_reducible repeat (first|apply Kd.aJ|apply Kd.aN|apply Kd.aV));exact Kd.dY kF.out (fun _ hk=>⟨trivial,hk⟩)) hg (.inl rfl)) hp_ ((by rw [hw];exact uJ (HB.out) aoy.out:Below w.heap.size w w38));clear hg hw hp_));try go_wp2_with (first|((with_reducible refine zC (t:=2) (p:=87) rfl ?_);(try (rw [qp wr];generalize hq_:World.drewN wr _=wr;obtain ⟨kF,dZ,HB⟩:=zA3 (Kd.adQ hq_ kF.out) (Kd.adQ hq_ dZ.out) (adR hq_ HB.out);(try (have acX:=Kd.aat kF.out (gG:Int) (wrap64 ((rd nJ gG)+1))))));refine yc (t:=2) (p:=87) (v := ?ata) (w1:=(wr.setCell ⟨sS,(gG:Int).toNat,none⟩ (.int .i64 (wrap64 ((rd nJ gG)+1))))) ?hg ?ho ?hn ?hr ?_;(case ho=>rfl);(case hg=>rfl);(case hn=>rfl);(case hr=>first|(go_simp;done)|(go_simp;rfl));intro w36 hw;have hg:wr.grownBy w36 (some sS):=(by rw [hw];exact acX.2);have hp_:Kd.R (Kd.int .i64) 2 w36 w.heap.size (fun k_=>some k_≠(.slice aiP ng.length aak:Value).ownBlock) (.slice (some ⟨sS,0,none⟩) nJ.length xK) alb:=(by rw [hw,arO.out];exact acX.1);clear acX;obtain ⟨kF,dZ,HB⟩:=zA3 hp_ (Kd.uG (v:=(.slice (some ⟨sS,0,none⟩) nJ.length xK)) (v1:=(.slice (some ⟨sS,0,none⟩) nJ.length xK)) (ok:=(fun _=>True)) (by (with_reducible repeat (first|apply Kd.aJ|apply Kd.aN|apply Kd.aV));exact Kd.dY dZ.out (fun _ hk=>⟨trivial,hk⟩)) hg (.inl rfl)) ((by rw [hw];exact uJ (HB.out) au5.out:Below w.heap.size w w36));clear hg hw hp_;have p33:0≤(gG:Int):=of_decide_eq_true (by first|(with_reducible assumption)|assumption);have q33:(gG:Int) < ((ng.length:Int):Int):=of_decide_eq_true (by first|(with_reducible assumption)|assumption);obtain ⟨yZ,au6,aeK,ahe,aox,azo,ahf⟩:=Kd.aeV dZ.out (by omega);(first|cases aeK|(injection aeK with ea_ en_ ec_;(first|subst ea_|(injection ea_ with ea_;subst ea_));subst ec_;clear en_));have aoy:=aj.mk ahe;have azp:=aj.mk ahf;clear ahe aox ahf;obtain ⟨atb,atc⟩:=Kd.xZ 0 dZ.out (gG:Int) p33 q33;replace p33:=eq_true p33;replace q33:=eq_true q33;have n_:=aj.mk (Kd.dY (ok':=(fun k_=>some k_≠(.slice (some ⟨sS,0,none⟩) nJ.length xK:Value).ownBlock)) dZ.out (fun k_ hk=>hk.2));clear dZ;have dZ:=n_;clear n_;obtain ⟨aj1,aj2⟩:=Kd.xZ 0 dZ.out (gG:Int) (of_decide_eq_true (by first|(with_reducible assumption)|assumption)) (of_decide_eq_true (by first|(with_reducible assumption)|assumption));have abz:=Kd.aat dZ.out (gG:Int) (-1))|((with_reducible refine zC (t:=2) (p:=90) rfl ?_);(try (rw [qp w36];generalize hq_:World.drewN w36 _=w36;obtain ⟨kF,dZ,HB⟩:=zA3 (Kd.adQ hq_ kF.out) (Kd.adQ hq_ dZ.out) (adR hq_ HB.out);(try (have n_:=aj.mk (Kd.dY (ok':=(fun k_=>some k_≠(.slice (some ⟨sS,0,none⟩) nJ.length xK:Value).ownBlock)) dZ.out (fun k_ hk=>hk.2));clear dZ;have dZ:=n_;clear n_));(try (obtain ⟨aj1,aj2⟩:=Kd.xZ 0 dZ.out (gG:Int) (of_decide_eq_true (by first|(with_reducible assumption)|assumption)) (of_decide_eq_true (by first|(with_reducible assumption)|assumption))));(try (have abz:=Kd.aat dZ.out (gG:Int) (-1)))));refine yc (t:=2) (p:=90) (v := ?atd) (w1:=(w36.setCell ⟨yZ,(gG:Int).toNat,none⟩ (.int .i64 (-1)))) ?hg ?ho ?hn ?hr ?_;(case ho=>rfl);(case hg=>rfl);(case hn=>rfl);(case hr=>first|(go_simp;done)|(go_simp;rfl));intro w38 hw;have hg:w36.grownBy w38 (some yZ):=(by rw [hw];exact abz.2);have hp_:Kd.R (Kd.int .i64) 2 w38 w.heap.size (fun k_=>some k_≠(.slice (some ⟨sS,0,none⟩) nJ.length xK:Value).ownBlock) (.slice (some ⟨yZ,0,none⟩) ng.length aak) aow:=(by rw [hw,arP.out];exact abz.1);clear abz;obtain ⟨kF,dZ,HB⟩:=zA3 (Kd.uG (v:=(.slice (some ⟨yZ,0,none⟩) ng.length aak)) (v1:=(.slice (some ⟨yZ,0,none⟩) ng.length aak)) (ok:=(fun _=>True)) (by (with_reducible repeat (first|apply Kd.aJ|apply Kd.aN|apply Kd.aV));exact Kd.dY kF.out (fun _ hk=>⟨trivial,hk⟩)) hg (.inl rfl)) hp_ ((by rw [hw];exact uJ (HB.out) aoy.out:Below w.heap.size w w38));clear hg hw hp_)))
                    go_roundg k5
                    case measure=>have:=HJ1.out;have:=HK2.out;have:=HK3.out;have:=HK4.out;have:=HK5.out;omega
                    case rel=>exact ⟨(alb),(aow),(wrap64 (ahd - 1)),zT,H',⟨by have:=HJ1.out;have:=HK2.out;have:=HK3.out;have:=HK4.out;have:=HK5.out;omega⟩,⟨by (with_reducible repeat (first|apply Kd.aJ|apply Kd.aN|apply Kd.aV));exact Kd.dY kF.out (fun _ hk=>hk.2)⟩,⟨by (with_reducible repeat (first|apply Kd.aJ|apply Kd.aN|apply Kd.aV));exact dZ.out⟩,⟨zB⟩⟩
                   ·rw [if_neg c32] at H;exact absurd H (by simp)
                  ·rw [if_neg c30] at H;exact absurd H (by simp)
                 ·rw [if_neg c29] at H;exact absurd H (by simp)
             ·rw [if_neg c21] at H;have afD:=decide_eq_false c21;clear c21;simp only [Option.some.injEq,Prod.mk.injEq] at H;obtain ⟨rfl,rfl⟩:=H;go_wp2;repeat (go_quiet (fail);try go_wp2)
              go_ret2;exact ⟨_,zS,by (with_reducible repeat (first|apply Kd.aJ|apply Kd.aN|apply Kd.aV));exact Kd.dY kF.out (fun _ hk=>trivial),zB⟩
mutual
def dw.j0:Nat→Int→Int→Int→Bool→Option ((List (jo)) × Int)
 | 0,_,_,_,_=>none
 | k+1,x0,x1,x2,x29=>if x29=true then (some (([]:List (jo)),6)) else (dw.l0 k x0 x1 x2 ([]:List (jo)) x2 0)
def dw.l0:Nat→Int→Int→Int→List (jo)→Int→Int→Option ((List (jo)) × Int)
 | 0,_,_,_,_,_,_=>none
 | k+1,x0,x1,x2,x8,x30,x31=>if x31 < x30 then ((dh.f k x0 x1 x2 x31).bind fun axb=>((aG.f k axb.2).bind fun arQ=>(if arQ.2=0 then (if x8.length < 4398046511104 then (dw.l0 k x0 x1 x2 (x8 ++ [(⟨axb.1,arQ.1⟩:jo)]) x30 (wrap64 (x31+1))) else (none)) else (some (([]:List (jo)),arQ.2))))) else (some (x8,0))
end
def dw.f (k:Nat) (a0 a1 a2:Int):Option ((List (jo)) × Int):=if a0 < 0 then (dw.j0 k a0 a1 a2 true) else (if a0 > 2 then (dw.j0 k a0 a1 a2 true) else ((jm.f a1).bind fun au7=>(if au7=true then ((jm.f a2).bind fun arR=>(dw.j0 k a0 a1 a2 (!arR))) else (dw.j0 k a0 a1 a2 true))))
theorem dw.calls (k:Nat) (a0 a1 a2:Int) (r1:List (jo)) (r2:Int) (w:World) (h:dw.f k a0 a1 a2=some (r1,r2)) :
  Calls Tryz.prog 93 #[.int .i64 a0,.int .i64 a1,.int .i64 a2] w fun e w'=>∃ v0_:Value,e = .returned (.tuple #[v0_,.int .i64 r2])∧Kd.S tN 138 w' w.heap.size (fun _=>True) v0_ r1∧Below w.heap.size w w':=by
 have aHG:=Tryz.underlying138;have HB:=aj.mk (Below.refl w.heap.size w);have H:=h;clear h;unfold dw.f at H;have HC4:=aj.mk H;clear H;go_enter Tryz.func93,Tryz.ntmps93;go_upto_region 1 with (fail);go_cut [29] (fun v29 wc=>∃ (kq:Nat) (anh:Bool),v29 = .bool anh∧aj (dw.j0 kq a0 a1 a2 anh=some (r1,r2))∧aj (kq≤k)∧aj (Below w.heap.size w wc))
 case first =>
  have H:=HC4.out;clear HC4;by_cases c5:a0 < 0
  ·rw [if_pos c5] at H;have gJ:=decide_eq_true c5;clear c5
   (first|rw [gJ]|(simp only [bP,bU];rw [gJ])|skip)
   have H':=aj.mk H;clear H;go_wp2;go_meet
   case rel=>exact ⟨_,(true),zT,H',⟨by first|omega|exact Nat.le_refl _⟩,⟨zB⟩⟩
  ·rw [if_neg c5] at H;have gJ:=decide_eq_false c5;clear c5
   (first|rw [gJ]|(simp only [bP,bU];rw [gJ])|skip)
   by_cases c6:a0 > 2
   ·rw [if_pos c6] at H;have gI:=decide_eq_true c6;clear c6;have H':=aj.mk H;clear H;go_wp2;go_meet
    case rel=>exact ⟨_,(true),zT,H',⟨by first|omega|exact Nat.le_refl _⟩,⟨zB⟩⟩
   ·rw [if_neg c6] at H;have gI:=decide_eq_false c6;clear c6;replace H:=zO H;obtain ⟨au7,A7,H⟩:=H;try dsimp only at H
    by_cases c8:au7=true
    ·subst c8;rw [if_pos rfl] at H;(try dsimp only at H);replace H:=zO H;obtain ⟨arR,A9,H⟩:=H;try dsimp only at H
     have H':=aj.mk H;clear H;go_wp2_with (first|(go_at_call 113;(with_reducible refine (jm.calls a1 true _ A7.out).mono ?_);rintro e w' ⟨rfl,⟨nd,rfl⟩⟩)|(go_at_call 113;(with_reducible refine (jm.calls a2 arR _ A9.out).mono ?_);rintro e w' ⟨rfl,⟨nd,rfl⟩⟩));go_meet
     case rel=>exact ⟨_,(!arR),zT,H',⟨by first|omega|exact Nat.le_refl _⟩,⟨zB⟩⟩
    ·replace c8:=Bool.eq_false_iff.mpr c8;subst c8;rw [if_neg (show ¬ (false=true) by decide)] at H;(try dsimp only at H);have H':=aj.mk H;clear H;go_wp2_with (first|(go_at_call 113;(with_reducible refine (jm.calls a1 false _ A7.out).mono ?_);rintro e w' ⟨rfl,⟨nd,rfl⟩⟩));go_meet
     case rel=>exact ⟨_,(true),zT,H',⟨by first|omega|exact Nat.le_refl _⟩,⟨zB⟩⟩
 case rest =>
  clear HC4;obtain ⟨kq,anh,rfl,HA,HJ3,HB⟩:=hcut;cases kq with
  | zero=>exact absurd HA.out (by simp [dw.j0])
  | succ kj3 =>
   have H:=HA.out;clear HA;simp only [dw.j0] at H;by_cases c10:anh=true
   ·subst c10;rw [if_pos rfl] at H;(try dsimp only at H);simp only [Option.some.injEq,Prod.mk.injEq] at H;obtain ⟨rfl,rfl⟩:=H;go_wp2;go_ret2;exact ⟨_,zS,by first|exact Kd.qo _ _ _ _ _|exact Kd.qM _ _ _ _ _|exact Kd.oU _ _ _ _ _|exact Kd.qN _ _ _ _ _|exact Kd.kQ _ _ _ _ _,zB⟩
   ·replace c10:=Bool.eq_false_iff.mpr c10;subst c10;rw [if_neg (show ¬ (false=true) by decide)] at H;(try dsimp only at H);have H':=aj.mk H;clear H;go_wp2;go_loopg [8,31] kj3 (fun kq v8 v31 w'=>∃ (mZ:List (jo)) (acp:Int),v31 = .int .i64 acp∧aj (dw.l0 kq a0 a1 a2 mZ a2 acp=some (r1,r2))∧aj (kq≤kj3)∧aj (Kd.S tN 138 w' w.heap.size (fun _=>True) v8 mZ)∧aj (Below w.heap.size w w'))
    case atStart=>exact ⟨(([]:List (jo))),(0),zT,H',⟨Nat.le_refl _⟩,⟨by first|exact Kd.qo _ _ _ _ _|exact Kd.qM _ _ _ _ _|exact Kd.oU _ _ _ _ _|exact Kd.qN _ _ _ _ _|exact Kd.kQ _ _ _ _ _⟩,⟨zB⟩⟩
    case round =>
     clear H';obtain ⟨mZ,acp,rfl,HA,HK2,dZ,HB⟩:=hrel;cases gk with
     | zero=>exact absurd HA.out (by simp [dw.l0])
     | succ k2 =>
      have H:=HA.out;clear HA;simp only [dw.l0] at H;by_cases c11:acp < a2
      ·rw [if_pos c11] at H;have jv:=decide_eq_true c11;clear c11;replace H:=zO H;obtain ⟨⟨alc,afF⟩,A12,H⟩:=H;try dsimp only at H
       replace H:=zO H;obtain ⟨⟨aiU,aiV⟩,A13,H⟩:=H;try dsimp only at H
       by_cases c14:aiV=0
       ·rw [if_pos c14] at H;have acn:(aiV == 0)=true:=beq_iff_eq.mpr c14;have ani:(aiV != 0)=false:=bne_eq_false_iff_eq.mpr c14;clear c14;by_cases c15:mZ.length < 4398046511104
        ·rw [if_pos c15] at H;have arB:=aj.mk c15;clear c15;obtain ⟨azq,aj3⟩:∃ y_:List (jo),y_=(mZ ++ [(⟨alc,aiU⟩:jo)]):=⟨_,rfl⟩;replace H:(dw.l0 k2 a0 a1 a2 azq a2 (wrap64 (acp+1)))=some (r1,r2):=(by first|(rw [aj3];with_reducible exact H)|(have H2_:=(Option.bind_some _ _).symm.trans H;rw [aj3];with_reducible exact H2_)|(have H2_:=(Option.bind_some _ _).symm.trans H;with_reducible exact H2_)|with_reducible exact H|(rw [aj3];exact H)|exact H);have aBO:=aj.mk aj3;clear aj3;have H':=aj.mk H;clear H;go_wp2_with (first|((with_reducible refine ay (f:=114) rfl ?_);refine aH (some 39) rfl rfl Tryz.func114 (by kernel_rfl) rfl #[.int .i64 a0,.int .i64 a1,.int .i64 a2,.int .i64 acp] rfl zL ?_;(with_reducible refine (dh.calls k2 a0 a1 a2 acp alc afF _ A12.out).mono ?_);rintro e w16 ⟨aDc,rfl,ho0,hb⟩;refine ⟨_,rfl,?_⟩;obtain ⟨dZ,wC,HB⟩:=zA3 (Kd.afe (by (with_reducible repeat (first|apply Kd.ab6|apply Kd.ab7|apply Kd.adS));exact dZ.out) (Kd.jT ho0) hb) (Kd.gX ho0 (bW zB)) (ak zB hb);(try clear hb);(try clear ho0);obtain ⟨arS,arT,aDd⟩:=Kd.fP wC.out;subst aDd)|((with_reducible refine ay (f:=115) rfl ?_);refine aH (some 44) rfl rfl Tryz.func115 (by kernel_rfl) rfl #[.slice arS afF.length arT] rfl zL ?_;(with_reducible refine (aG.calls k2 _ _ afF aiU aiV _ ?iC ?iD A13.out).mono ?_);(case iC=>repeat (first|exact (Kd.dK wC.out).2.2|(with_reducible refine Kd.iT ?_ _)|(with_reducible refine Kd.jg ?_ _)|(with_reducible refine Kd.jH ?_)));(case iD=>exact (Kd.dK wC.out).2.1);rintro e w18 ⟨aDe,rfl,ho0,hb⟩;refine ⟨_,rfl,?_⟩;obtain ⟨dZ,wC,anj,HB⟩:=zA4 (Kd.afe (by (with_reducible repeat (first|apply Kd.ab6|apply Kd.ab7|apply Kd.adS));exact dZ.out) (Kd.jT ho0) hb) (Kd.jk (by (with_reducible repeat (first|apply Kd.aJ|apply Kd.aN|apply Kd.aV));exact wC.out) (Kd.jT ho0) hb) (Kd.gX (Kd.lC ho0 (Kd.mY (by (with_reducible repeat (first|apply Kd.aJ|apply Kd.aN|apply Kd.aV));exact wC.out))) (bW zB)) (ak zB hb);(try clear hb);(try clear ho0);obtain ⟨aoz,aoA,aoB⟩:=Kd.fP anj.out;subst aoB)|((with_reducible refine kR (b := .append) (xs := #[.tmp 50,.tmp 54]) rfl ?_);at_builtin;refine Kd.atH tN (w0:=w) w.heap.size rfl (.tmp 50) (.tmp 54) 39 138 (.agg #[(.int .i64 0),(.slice none 0 0)]) 32 rfl Tryz.underlying39 axJ rfl (by decide) (by omega) u8 mZ (⟨alc,aiU⟩:jo) [.int .i64 alc,.slice aoz aiU.length aoA] (fun k_=>some k_≠(.slice arS afF.length arT:Value).ownBlock) (fun k_=>some k_=(.slice aoz aiU.length aoA:Value).ownBlock) rfl rfl ?aP (fun k_ hk_=>((Kd.dY (ok':=fun k_=>((fun k_=>some k_≠(.slice arS afF.length arT:Value).ownBlock)) k_∧some k_≠(u8:Value).ownBlock) (Kd.anH (anj.out) (Kd.akT dZ.out) (by decide)) (fun k_ hk=>⟨hk.1.2,hk.2⟩))).1 k_ hk_.symm) ?aF ?aO ?aB ?aS ?aL ?_;(case aP=>exact anN _ _ _ (⟨alc,aiU⟩:jo) (Kd.dY (Kd.apS rfl (Kd.dY (ok':=fun k_=>((fun k_=>some k_≠(.slice arS afF.length arT:Value).ownBlock)) k_∧some k_≠(u8:Value).ownBlock) (Kd.anH (anj.out) (Kd.akT dZ.out) (by decide)) (fun k_ hk=>⟨hk.1.2,hk.2⟩))) (fun _ h_=>h_)));(case aB=>exact zB);(case aF=>exact (fun k_ hk=>Kd.fresh' (Kd.mY (by (with_reducible repeat (first|apply Kd.aJ|apply Kd.aN|apply Kd.aV));exact wC.out)) k_ hk));(case aO=>exact (by (with_reducible repeat (first|apply Kd.ab6|apply Kd.ab7|apply Kd.adS));exact Kd.asK dZ.out (fun k_ hk=>⟨hk.1.2,fun e_=>hk.2 e_⟩)));(case aS=>exact (bW zB));(case aL=>have:=arB.out;omega);intro aIL w20 ho hb hg hat;rw [← aBO.out] at ho;obtain ⟨wC,HB,aBP⟩:=zA3 (Kd.axG (by (with_reducible repeat (first|apply Kd.aJ|apply Kd.aN|apply Kd.aV));exact wC.out) (Kd.akT (by (with_reducible repeat (first|apply Kd.ab6|apply Kd.ab7|apply Kd.adS));exact dZ.out)) (by decide) hg) hb ho;clear ho hb hg hat));go_roundg k2
         case measure=>have:=HJ3.out;have:=HK2.out;omega
         case rel=>exact ⟨(azq),(wrap64 (acp+1)),zT,H',⟨by have:=HJ3.out;have:=HK2.out;omega⟩,⟨by (with_reducible repeat (first|apply Kd.ab6|apply Kd.ab7|apply Kd.adS));exact Kd.asK aBP.out (fun _ hk=>trivial)⟩,⟨zB⟩⟩
        ·rw [if_neg c15] at H;exact absurd H (by simp)
       ·rw [if_neg c14] at H;have acn:(aiV == 0)=false:=beq_eq_false_iff_ne.mpr c14;have ani:(aiV != 0)=true:=bne_iff_ne.mpr c14;simp only [Option.some.injEq,Prod.mk.injEq] at H;obtain ⟨rfl,rfl⟩:=H;go_wp2_with (first|((with_reducible refine ay (f:=114) rfl ?_);refine aH (some 39) rfl rfl Tryz.func114 (by kernel_rfl) rfl #[.int .i64 a0,.int .i64 a1,.int .i64 a2,.int .i64 acp] rfl zL ?_;(with_reducible refine (dh.calls k2 a0 a1 a2 acp alc afF _ A12.out).mono ?_);rintro e w21 ⟨aDc,rfl,ho0,hb⟩;refine ⟨_,rfl,?_⟩;obtain ⟨dZ,wC,HB⟩:=zA3 (Kd.afe (by (with_reducible repeat (first|apply Kd.ab6|apply Kd.ab7|apply Kd.adS));exact dZ.out) (Kd.jT ho0) hb) (Kd.gX ho0 (bW zB)) (ak zB hb);(try clear hb);(try clear ho0);obtain ⟨aiP,aak,auZ⟩:=Kd.fP wC.out;subst auZ)|((with_reducible refine ay (f:=115) rfl ?_);refine aH (some 44) rfl rfl Tryz.func115 (by kernel_rfl) rfl #[.slice aiP afF.length aak] rfl zL ?_;(with_reducible refine (aG.calls k2 _ _ afF aiU aiV _ ?iC ?iD A13.out).mono ?_);(case iC=>repeat (first|exact (Kd.dK wC.out).2.2|(with_reducible refine Kd.iT ?_ _)|(with_reducible refine Kd.jg ?_ _)|(with_reducible refine Kd.jH ?_)));(case iD=>exact (Kd.dK wC.out).2.1);rintro e w23 ⟨aDe,rfl,ho0,hb⟩;refine ⟨_,rfl,?_⟩;obtain ⟨dZ,wC,anj,HB⟩:=zA4 (Kd.afe (by (with_reducible repeat (first|apply Kd.ab6|apply Kd.ab7|apply Kd.adS));exact dZ.out) (Kd.jT ho0) hb) (Kd.jk (by (with_reducible repeat (first|apply Kd.aJ|apply Kd.aN|apply Kd.aV));exact wC.out) (Kd.jT ho0) hb) (Kd.gX (Kd.lC ho0 (Kd.mY (by (with_reducible repeat (first|apply Kd.aJ|apply Kd.aN|apply Kd.aV));exact wC.out))) (bW zB)) (ak zB hb);(try clear hb);(try clear ho0)));go_ret2;exact ⟨_,zS,by first|exact Kd.qo _ _ _ _ _|exact Kd.qM _ _ _ _ _|exact Kd.oU _ _ _ _ _|exact Kd.qN _ _ _ _ _|exact Kd.kQ _ _ _ _ _,zB⟩
      ·rw [if_neg c11] at H;have jv:=decide_eq_false c11;clear c11;simp only [Option.some.injEq,Prod.mk.injEq] at H;obtain ⟨rfl,rfl⟩:=H;go_wp2;go_ret2;exact ⟨_,zS,by (with_reducible repeat (first|apply Kd.ab6|apply Kd.ab7|apply Kd.adS));exact dZ.out,zB⟩
mutual
def eP.j0:Nat→Int→Option (Int)
 | 0,_=>none
 | k+1,x0=>(fD.f k x0 762123384786).bind fun acY=>(eP.l0 k acY (wrap64 (x0 - (wrap64 (acY*762123384786)))) 1099511627776 0 1099511627776 1)
def eP.l0:Nat→Int→Int→Int→Int→Int→Int→Option (Int)
 | 0,_,_,_,_,_,_=>none
 | k+1,x3,x4,x5,x6,x7,x8=>if x8≤16 then ((bC.f k x7 x4 (wrap64 (x8*1099511627776))).bind fun adT=>(if (Int.tmod x8 2)=1 then (eP.l0 k x3 x4 x5 (wrap64 (x6+adT)) adT (wrap64 (x8+1))) else (eP.l0 k x3 x4 (wrap64 (x5+adT)) x6 adT (wrap64 (x8+1))))) else ((aK.f k (wrap64 (x5 - x6)) x3).bind fun au8=>(some au8))
end
def eP.f (k:Nat) (a0:Int):Option (Int):=if a0 < 0 then (eP.j0 k 0) else (eP.j0 k a0)
theorem eP.calls (k:Nat) (a0 r:Int) (w:World) (h:eP.f k a0=some r) :
  Calls Tryz.prog 145 #[.int .i64 a0] w fun e w'=>e = .returned (.int .i64 r)∧Below w.heap.size w w':=by
 have HB:=aj.mk (Below.refl w.heap.size w);have H:=h;clear h;unfold eP.f at H;have HC2:=aj.mk H;clear H;go_enter Tryz.func145,Tryz.ntmps145;go_upto_if 10 with (fail)
 go_cut [0] (fun v0 wc=>∃ (kq:Nat) (aeL:Int),v0 = .int .i64 aeL∧aj (eP.j0 kq aeL=some r)∧aj (kq≤k)∧aj (Below w.heap.size w wc))
 case first =>
  have H:=HC2.out;clear HC2;by_cases c3:a0 < 0
  ·rw [if_pos c3] at H;have fV:=decide_eq_true c3;clear c3
   (first|rw [fV]|(simp only [bP,bU];rw [fV])|skip)
   have H':=aj.mk H;clear H;go_wp2;go_meet
   case rel=>exact ⟨_,(0),zT,H',⟨by first|omega|exact Nat.le_refl _⟩,⟨zB⟩⟩
  ·rw [if_neg c3] at H;have fV:=decide_eq_false c3;clear c3
   (first|rw [fV]|(simp only [bP,bU];rw [fV])|skip)
   have H':=aj.mk H;clear H;go_wp2;go_meet
   case rel=>exact ⟨_,(a0),zT,H',⟨by first|omega|exact Nat.le_refl _⟩,⟨zB⟩⟩
 case rest =>
  clear HC2;obtain ⟨kq,aeL,rfl,HA,HJ1,HB⟩:=hcut;cases kq with
  | zero=>exact absurd HA.out (by simp [eP.j0])
  | succ kj1 =>
   have H:=HA.out;clear HA;simp only [eP.j0] at H;replace H:=zO H;obtain ⟨acY,A4,H⟩:=H;try dsimp only at H
   have H':=aj.mk H;clear H;go_wp2_with (first|((with_reducible refine ay (f:=144) rfl ?_);refine aH (some 12) rfl rfl Tryz.func144 (by kernel_rfl) rfl #[.int .i64 aeL,.int .i64 762123384786] rfl zL ?_;(with_reducible refine (fD.calls kj1 aeL 762123384786 acY _ A4.out).mono ?_);rintro e w5 ⟨rfl,hb⟩;refine ⟨_,rfl,?_⟩;replace HB:=aj.mk (ak zB hb);(try clear hb)));go_loopg [5,6,7,8] kj1 (fun kq v5 v6 v7 v8 w'=>∃ (ou:Int) (aal:Int) (ab4:Int) (mZ:Int),v5 = .int .i64 ou∧v6 = .int .i64 aal∧v7 = .int .i64 ab4∧v8 = .int .i64 mZ∧aj (eP.l0 kq acY (wrap64 (aeL - (wrap64 (acY*762123384786)))) ou aal ab4 mZ=some r)∧aj (kq≤kj1)∧aj (Below w.heap.size w w'))
   case atStart=>exact ⟨(1099511627776),(0),(1099511627776),(1),zT,zT,zT,zT,H',⟨Nat.le_refl _⟩,⟨zB⟩⟩
   case round =>
    clear H';obtain ⟨ou,aal,ab4,mZ,rfl,rfl,rfl,rfl,HA,HK2,HB⟩:=hrel;cases gk with
    | zero=>exact absurd HA.out (by simp [eP.l0])
    | succ k2 =>
     have H:=HA.out;clear HA;simp only [eP.l0] at H;by_cases c6:mZ≤16
     ·rw [if_pos c6] at H;have gI:=decide_eq_true c6;clear c6;replace H:=zO H;obtain ⟨adT,A7,H⟩:=H;try dsimp only at H
      by_cases c8:(Int.tmod mZ 2)=1
      ·rw [if_pos c8] at H;have qg:((Int.tmod mZ 2) == 1)=true:=beq_iff_eq.mpr c8;have abR:((Int.tmod mZ 2) != 1)=false:=bne_eq_false_iff_eq.mpr c8;clear c8;have H':=aj.mk H;clear H;go_wp2_with (first|((with_reducible refine ay (f:=118) rfl ?_);refine aH (some 25) rfl rfl Tryz.func118 (by kernel_rfl) rfl #[.int .i64 ab4,.int .i64 (wrap64 (aeL - (wrap64 (acY*762123384786)))),.int .i64 (wrap64 (mZ*1099511627776))] rfl zL ?_;(with_reducible refine (bC.calls k2 ab4 (wrap64 (aeL - (wrap64 (acY*762123384786)))) (wrap64 (mZ*1099511627776)) adT _ A7.out).mono ?_);rintro e w9 ⟨rfl,hb⟩;refine ⟨_,rfl,?_⟩;replace HB:=aj.mk (ak zB hb);(try clear hb)));go_roundg k2
       case measure=>have:=HJ1.out;have:=HK2.out;omega
       case rel=>exact ⟨(ou),(wrap64 (aal+adT)),(adT),(wrap64 (mZ+1)),zT,zT,zT,zT,H',⟨by have:=HJ1.out;have:=HK2.out;omega⟩,⟨zB⟩⟩
      ·rw [if_neg c8] at H;have qg:((Int.tmod mZ 2) == 1)=false:=beq_eq_false_iff_ne.mpr c8;have abR:((Int.tmod mZ 2) != 1)=true:=bne_iff_ne.mpr c8;have H':=aj.mk H;clear H;go_wp2_with (first|((with_reducible refine ay (f:=118) rfl ?_);refine aH (some 25) rfl rfl Tryz.func118 (by kernel_rfl) rfl #[.int .i64 ab4,.int .i64 (wrap64 (aeL - (wrap64 (acY*762123384786)))),.int .i64 (wrap64 (mZ*1099511627776))] rfl zL ?_;(with_reducible refine (bC.calls k2 ab4 (wrap64 (aeL - (wrap64 (acY*762123384786)))) (wrap64 (mZ*1099511627776)) adT _ A7.out).mono ?_);rintro e w10 ⟨rfl,hb⟩;refine ⟨_,rfl,?_⟩;replace HB:=aj.mk (ak zB hb);(try clear hb)));go_roundg k2
       case measure=>have:=HJ1.out;have:=HK2.out;omega
       case rel=>exact ⟨(wrap64 (ou+adT)),(aal),(adT),(wrap64 (mZ+1)),zT,zT,zT,zT,H',⟨by have:=HJ1.out;have:=HK2.out;omega⟩,⟨zB⟩⟩
     ·rw [if_neg c6] at H;have gI:=decide_eq_false c6;clear c6;replace H:=zO H;obtain ⟨au8,A11,H⟩:=H;try dsimp only at H
      obtain rfl:=Option.some.inj H;go_wp2_with (first|((with_reducible refine ay (f:=101) rfl ?_);refine aH (some 39) rfl rfl Tryz.func101 (by kernel_rfl) rfl #[.int .i64 (wrap64 (ou - aal)),.int .i64 acY] rfl zL ?_;(with_reducible refine (aK.calls k2 (wrap64 (ou - aal)) acY au8 _ A11.out).mono ?_);rintro e w12 ⟨rfl,hb⟩;refine ⟨_,rfl,?_⟩;replace HB:=aj.mk (ak zB hb);(try clear hb)));go_ret;exact ⟨zS,zB⟩
def oz.f (k:Nat) (a0 a1:Int):Option (Int):=if a1 < 1 then (some 9223372036854775807) else (if a1 > 4194304 then (some 9223372036854775807) else (if a0 < (-16384) then (some 9223372036854775807) else (if a0 > 16384 then (some 9223372036854775807) else ((bC.f k (wrap64 ((wrap64 (a0*a0))*2147483648)) 1099511627776 (wrap64 (a1*a1))).bind fun au9=>(some au9)))))
theorem oz.calls (k:Nat) (a0 a1 r:Int) (w:World) (h:oz.f k a0 a1=some r) :
  Calls Tryz.prog 146 #[.int .i64 a0,.int .i64 a1] w fun e w'=>e = .returned (.int .i64 r)∧Below w.heap.size w w':=by
 have HB:=aj.mk (Below.refl w.heap.size w);have H:=h;clear h;unfold oz.f at H;by_cases c3:a1 < 1
 ·rw [if_pos c3] at H;have fV:=decide_eq_true c3;clear c3;obtain rfl:=Option.some.inj H;go_enter Tryz.func146,Tryz.ntmps146;go_wp2;go_ret;exact ⟨zS,zB⟩
 ·rw [if_neg c3] at H;have fV:=decide_eq_false c3;clear c3;by_cases c4:a1 > 4194304
  ·rw [if_pos c4] at H;have fH:=decide_eq_true c4;clear c4;obtain rfl:=Option.some.inj H;go_enter Tryz.func146,Tryz.ntmps146;go_wp2;go_ret;exact ⟨zS,zB⟩
  ·rw [if_neg c4] at H;have fH:=decide_eq_false c4;clear c4;by_cases c5:a0 < (-16384)
   ·rw [if_pos c5] at H;have gJ:=decide_eq_true c5;clear c5;obtain rfl:=Option.some.inj H;go_enter Tryz.func146,Tryz.ntmps146;go_wp2;go_ret;exact ⟨zS,zB⟩
   ·rw [if_neg c5] at H;have gJ:=decide_eq_false c5;clear c5;by_cases c6:a0 > 16384
    ·rw [if_pos c6] at H;have gI:=decide_eq_true c6;clear c6;obtain rfl:=Option.some.inj H;go_enter Tryz.func146,Tryz.ntmps146;go_wp2;go_ret;exact ⟨zS,zB⟩
    ·rw [if_neg c6] at H;have gI:=decide_eq_false c6;clear c6;replace H:=zO H;obtain ⟨au9,A7,H⟩:=H;try dsimp only at H
     obtain rfl:=Option.some.inj H;go_enter Tryz.func146,Tryz.ntmps146;go_wp2_with (first|((with_reducible refine ay (f:=118) rfl ?_);refine aH (some 26) rfl rfl Tryz.func118 (by kernel_rfl) rfl #[.int .i64 (wrap64 ((wrap64 (a0*a0))*2147483648)),.int .i64 1099511627776,.int .i64 (wrap64 (a1*a1))] rfl zL ?_;(with_reducible refine (bC.calls k (wrap64 ((wrap64 (a0*a0))*2147483648)) 1099511627776 (wrap64 (a1*a1)) au9 _ A7.out).mono ?_);rintro e w8 ⟨rfl,hb⟩;refine ⟨_,rfl,?_⟩;replace HB:=aj.mk (ak zB hb);(try clear hb)));go_ret;exact ⟨zS,zB⟩
def oC.f (k:Nat) (a0 a1:Int):Option (Int):=(oz.f k a0 a1).bind fun aoC=>((eP.f k aoC).bind fun aoD=>((aK.f k aoD 10).bind fun ava=>(some ava)))
theorem oC.calls (k:Nat) (a0 a1 r:Int) (w:World) (h:oC.f k a0 a1=some r) :
  Calls Tryz.prog 116 #[.int .i64 a0,.int .i64 a1] w fun e w'=>e = .returned (.int .i64 r)∧Below w.heap.size w w':=by
 have HB:=aj.mk (Below.refl w.heap.size w);have H:=h;clear h;unfold oC.f at H;replace H:=zO H;obtain ⟨aoC,A3,H⟩:=H;try dsimp only at H
 replace H:=zO H;obtain ⟨aoD,A4,H⟩:=H;try dsimp only at H
 replace H:=zO H;obtain ⟨ava,A5,H⟩:=H;try dsimp only at H
 obtain rfl:=Option.some.inj H;go_enter Tryz.func116,Tryz.ntmps116;go_wp2_with (first|((with_reducible refine ay (f:=146) rfl ?_);refine aH (some 7) rfl rfl Tryz.func146 (by kernel_rfl) rfl #[.int .i64 a0,.int .i64 a1] rfl zL ?_;(with_reducible refine (oz.calls k a0 a1 aoC _ A3.out).mono ?_);rintro e w6 ⟨rfl,hb⟩;refine ⟨_,rfl,?_⟩;replace HB:=aj.mk (ak zB hb);(try clear hb))|((with_reducible refine ay (f:=145) rfl ?_);refine aH (some 8) rfl rfl Tryz.func145 (by kernel_rfl) rfl #[.int .i64 aoC] rfl zL ?_;(with_reducible refine (eP.calls k aoC aoD _ A4.out).mono ?_);rintro e w7 ⟨rfl,hb⟩;refine ⟨_,rfl,?_⟩;replace HB:=aj.mk (ak zB hb);(try clear hb))|((with_reducible refine ay (f:=101) rfl ?_);refine aH (some 9) rfl rfl Tryz.func101 (by kernel_rfl) rfl #[.int .i64 aoD,.int .i64 10] rfl zL ?_;(with_reducible refine (aK.calls k aoD 10 ava _ A5.out).mono ?_);rintro e w8 ⟨rfl,hb⟩;refine ⟨_,rfl,?_⟩;replace HB:=aj.mk (ak zB hb);(try clear hb)));go_ret;exact ⟨zS,zB⟩
mutual
def bH.j0:Nat→Int→Bool→Option (List Int × Int)
 | 0,_,_=>none
 | k+1,x0,x12=>if x12=true then (some (([]:List Int),7)) else (bH.l0 k x0 0)
def bH.l0:Nat→Int→Int→Option (List Int × Int)
 | 0,_,_=>none
 | k+1,x0,x4=>if (wrap64 (x4*65536)) < (wrap64 (3*x0)) then (bH.l0 k x0 (wrap64 (x4+1))) else (bH.l1 k x0 x4 ([]:List Int) (wrap64 (-x4)))
def bH.l1:Nat→Int→Int→List Int→Int→Option (List Int × Int)
 | 0,_,_,_,_=>none
 | k+1,x0,x4,x5,x6=>if x6≤x4 then ((oC.f k x6 x0).bind fun ald=>(if x5.length < 17592186044416 then (bH.l1 k x0 x4 (x5 ++ [ald]) (wrap64 (x6+1))) else (none))) else (some (x5,0))
end
def bH.f (k:Nat) (a0:Int):Option (List Int × Int):=if a0 < 1 then (bH.j0 k a0 true) else (bH.j0 k a0 (decide (a0 > 4194304)))
theorem bH.calls (k:Nat) (a0:Int) (r1:List Int) (r2:Int) (w:World) (h:bH.f k a0=some (r1,r2)) :
  Calls Tryz.prog 94 #[.int .i64 a0] w fun e w'=>∃ v0_:Value,e = .returned (.tuple #[v0_,.int .i64 r2])∧Kd.R (Kd.int .i64) 2 w' w.heap.size (fun _=>True) v0_ r1∧Below w.heap.size w w':=by
 have HB:=aj.mk (Below.refl w.heap.size w);have H:=h;clear h;unfold bH.f at H;have HC2:=aj.mk H;clear H;go_enter Tryz.func94,Tryz.ntmps94;go_upto_region 1 with (fail);go_cut [12] (fun v12 wc=>∃ (kq:Nat) (ac6:Bool),v12 = .bool ac6∧aj (bH.j0 kq a0 ac6=some (r1,r2))∧aj (kq≤k)∧aj (Below w.heap.size w wc))
 case first =>
  have H:=HC2.out;clear HC2;by_cases c3:a0 < 1
  ·rw [if_pos c3] at H;have fV:=decide_eq_true c3;clear c3
   (first|rw [fV]|(simp only [bP,bU];rw [fV])|skip)
   have H':=aj.mk H;clear H;go_wp2;go_meet
   case rel=>exact ⟨_,(true),zT,H',⟨by first|omega|exact Nat.le_refl _⟩,⟨zB⟩⟩
  ·rw [if_neg c3] at H;have fV:=decide_eq_false c3;clear c3
   (first|rw [fV]|(simp only [bP,bU];rw [fV])|skip)
   have H':=aj.mk H;clear H;go_wp2;go_meet
   case rel=>exact ⟨_,(decide (a0 > 4194304)),zT,H',⟨by first|omega|exact Nat.le_refl _⟩,⟨zB⟩⟩
 case rest =>
  clear HC2;obtain ⟨kq,ac6,rfl,HA,HJ1,HB⟩:=hcut;cases kq with
  | zero=>exact absurd HA.out (by simp [bH.j0])
  | succ kj1 =>
   have H:=HA.out;clear HA;simp only [bH.j0] at H;by_cases c4:ac6=true
   ·subst c4;rw [if_pos rfl] at H;(try dsimp only at H);simp only [Option.some.injEq,Prod.mk.injEq] at H;obtain ⟨rfl,rfl⟩:=H;go_wp2;go_ret2;exact ⟨_,zS,by first|exact Kd.kQ _ _ _ _ _|exact Kd.qM _ _ _ _ _|exact Kd.oU _ _ _ _ _|exact Kd.qN _ _ _ _ _|exact Kd.qo _ _ _ _ _,zB⟩
   ·replace c4:=Bool.eq_false_iff.mpr c4;subst c4;rw [if_neg (show ¬ (false=true) by decide)] at H;(try dsimp only at H);have H':=aj.mk H;clear H;go_wp2;go_loopg [4] kj1 (fun kq v4 w'=>∃ (yw:Int),v4 = .int .i64 yw∧aj (bH.l0 kq a0 yw=some (r1,r2))∧aj (kq≤kj1)∧aj (Below w.heap.size w w'))
    case atStart=>exact ⟨(0),zT,H',⟨Nat.le_refl _⟩,⟨zB⟩⟩
    case round =>
     clear H';obtain ⟨yw,rfl,HA,HK2,HB⟩:=hrel;cases gk with
     | zero=>exact absurd HA.out (by simp [bH.l0])
     | succ k2 =>
      have H:=HA.out;clear HA;simp only [bH.l0] at H;by_cases c5:(wrap64 (yw*65536)) < (wrap64 (3*a0))
      ·rw [if_pos c5] at H;have gJ:=decide_eq_true c5;clear c5;have H':=aj.mk H;clear H;go_wp2;go_roundg k2
       case measure=>have:=HJ1.out;have:=HK2.out;omega
       case rel=>exact ⟨(wrap64 (yw+1)),zT,H',⟨by have:=HJ1.out;have:=HK2.out;omega⟩,⟨zB⟩⟩
      ·rw [if_neg c5] at H;have gJ:=decide_eq_false c5;clear c5;have H':=aj.mk H;clear H;go_wp2;try simp only [Act.put,List.setIfInBounds_toArray,List.set_cons_succ,List.set_cons_zero]
       go_loopg [5,6] k2 (fun kq v5 v6 w'=>∃ (ale:List Int) (ahg:Int),v6 = .int .i64 ahg∧aj (bH.l1 kq a0 yw ale ahg=some (r1,r2))∧aj (kq≤k2)∧aj (Kd.R (Kd.int .i64) 2 w' w.heap.size (fun _=>True) v5 ale)∧aj (Below w.heap.size w w'))
       case atStart=>exact ⟨(([]:List Int)),(wrap64 (-yw)),zT,H',⟨Nat.le_refl _⟩,⟨by first|exact Kd.kQ _ _ _ _ _|exact Kd.qM _ _ _ _ _|exact Kd.oU _ _ _ _ _|exact Kd.qN _ _ _ _ _|exact Kd.qo _ _ _ _ _⟩,⟨zB⟩⟩
       case round =>
        clear H';obtain ⟨ale,ahg,rfl,HA,HK3,zf,HB⟩:=hrel;cases gk with
        | zero=>exact absurd HA.out (by simp [bH.l1])
        | succ k3 =>
         have H:=HA.out;clear HA;simp only [bH.l1] at H;by_cases c6:ahg≤yw
         ·rw [if_pos c6] at H;have gI:=decide_eq_true c6;clear c6;replace H:=zO H;obtain ⟨ald,A7,H⟩:=H;try dsimp only at H
          by_cases c8:ale.length < 17592186044416
          ·rw [if_pos c8] at H;have aDf:=aj.mk c8;clear c8;obtain ⟨azr,aj6⟩:∃ y_:List Int,y_=(ale ++ [ald]):=⟨_,rfl⟩;replace H:(bH.l1 k3 a0 yw azr (wrap64 (ahg+1)))=some (r1,r2):=(by first|(rw [aj6];with_reducible exact H)|(have H2_:=(Option.bind_some _ _).symm.trans H;rw [aj6];with_reducible exact H2_)|(have H2_:=(Option.bind_some _ _).symm.trans H;with_reducible exact H2_)|with_reducible exact H|(rw [aj6];exact H)|exact H);have aBQ:=aj.mk aj6;clear aj6;have H':=aj.mk H;clear H;go_wp2_with (first|((with_reducible refine ay (f:=116) rfl ?_);refine aH (some 30) rfl rfl Tryz.func116 (by kernel_rfl) rfl #[.int .i64 ahg,.int .i64 a0] rfl zL ?_;(with_reducible refine (oC.calls k3 ahg a0 ald _ A7.out).mono ?_);rintro e w9 ⟨rfl,hb⟩;refine ⟨_,rfl,?_⟩;obtain ⟨zf,HB⟩:=zA2 (Kd.jE (by (with_reducible repeat (first|apply Kd.aJ|apply Kd.aN|apply Kd.aV));exact zf.out) hb) (ak zB hb);(try clear hb))|((with_reducible refine kR (b := .append) (xs := #[.tmp 27,.tmp 31]) rfl ?_);at_builtin;refine Kd.lU (Kd.int .i64) (w0:=w) w.heap.size rfl (.tmp 27) (.tmp 31) 44 2 (.int .i64 0) 8 rfl Tryz.underlying44 yD rfl (by decide) (by omega) u5 ale ald [.int .i64 ald] (fun _=>True) (fun _=>False) rfl rfl ?aP (fun _ hk=>hk.elim) ?aF ?aO ?aB ?aS ?aL ?_;(case aP=>exact rfl);(case aB=>exact zB);(case aF=>exact (fun _ _=>trivial));(case aO=>exact (by (with_reducible repeat (first|apply Kd.aJ|apply Kd.aN|apply Kd.aV));exact zf.out));(case aS=>exact (bW zB));(case aL=>have:=aDf.out;omega);intro aIM w10 ho hb hg hat;rw [← aBQ.out] at ho;obtain ⟨HB,aBR⟩:=zA2 hb ho;clear ho hb hg hat));go_roundg k3
           case measure=>have:=HJ1.out;have:=HK2.out;have:=HK3.out;omega
           case rel=>exact ⟨(azr),(wrap64 (ahg+1)),zT,H',⟨by have:=HJ1.out;have:=HK2.out;have:=HK3.out;omega⟩,⟨by (with_reducible repeat (first|apply Kd.aJ|apply Kd.aN|apply Kd.aV));exact aBR.out⟩,⟨zB⟩⟩
          ·rw [if_neg c8] at H;exact absurd H (by simp)
         ·rw [if_neg c6] at H;have gI:=decide_eq_false c6;clear c6;simp only [Option.some.injEq,Prod.mk.injEq] at H;obtain ⟨rfl,rfl⟩:=H;go_wp2;go_ret2;exact ⟨_,zS,by (with_reducible repeat (first|apply Kd.aJ|apply Kd.aN|apply Kd.aV));exact zf.out,zB⟩
def iV.l0:Nat→Int→List Int→Int→Int→Option (Int)
 | 0,_,_,_,_=>none
 | k+1,x3,x6,x7,x8=>if x8 < x7 then (if 0≤x8 then (if x8 < (x6.length:Int) then ((jl.f (rd x6 x8)).bind fun aoE=>((iL.f k x3 aoE).bind fun arU=>(iV.l0 k arU x6 x7 (wrap64 (x8+1))))) else (none)) else (none)) else (some x3)
def iV.f (k:Nat) (l0:List Int):Option (Int):=iV.l0 k 0 l0 (l0.length:Int) 0
theorem iV.calls (k:Nat) (A0:Option Addr) (c0:Nat) (l0:List Int) (r:Int) (w:World) (hr0:Kd.C (Kd.int .i64) w A0 l0.length l0) (hc0:l0.length≤c0) (h:iV.f k l0=some r) :
  Calls Tryz.prog 117 #[.slice A0 l0.length c0] w fun e w'=>e = .returned (.int .i64 r)∧dA w w':=by
 have HR0:=aj.mk hr0;have HC0:=aj.mk hc0;clear hr0 hc0;have H:=h;clear h;unfold iV.f at H;have H':=aj.mk H;clear H;go_enter Tryz.func117,Tryz.ntmps117;go_wp2;go_loopg [3,8] k (fun kq v3 v8 w'=>∃ (qj:Int) (iR:Int),v3 = .int .i64 qj∧v8 = .int .i64 iR∧aj (iV.l0 kq qj l0 (l0.length:Int) iR=some r)∧aj (kq≤k)∧dA w w')
 case atStart=>exact ⟨(0),(0),zT,zT,H',⟨Nat.le_refl _⟩,zW⟩
 case round =>
  clear H';obtain ⟨qj,iR,rfl,rfl,HA,HK1,⟨m1,rfl⟩⟩:=hrel;cases gk with
  | zero=>exact absurd HA.out (by simp [iV.l0])
  | succ k1 =>
   have H:=HA.out;clear HA;simp only [iV.l0] at H;by_cases c2:iR < (l0.length:Int)
   ·rw [if_pos c2] at H;have oL:=decide_eq_true c2;clear c2;by_cases c3:0≤iR
    ·rw [if_pos c3] at H;have fV:=decide_eq_true c3;clear c3;by_cases c4:iR < (l0.length:Int)
     ·rw [if_pos c4] at H;have fH:=decide_eq_true c4;clear c4;replace H:=zO H;obtain ⟨aoE,A5,H⟩:=H;try dsimp only at H
      replace H:=zO H;obtain ⟨arU,A6,H⟩:=H;try dsimp only at H
      have H':=aj.mk H;clear H;have avb:0≤(iR:Int):=of_decide_eq_true (by first|(with_reducible assumption)|assumption);have avc:iR < (l0.length:Int):=of_decide_eq_true (by first|(with_reducible assumption)|assumption);obtain ⟨aHH,aDg,aE9⟩:=Kd.iY HR0.out iR avb avc;cases aDg;replace avb:=eq_true avb;replace avc:=eq_true avc;go_wp2_with (first|((with_reducible refine ay (f:=142) rfl ?_);refine aH (some 14) rfl rfl Tryz.func142 (by kernel_rfl) rfl #[.int .i64 (rd l0 iR)] rfl zL ?_;(with_reducible refine (jl.calls (rd l0 iR) aoE _ A5.out).mono ?_);rintro e w' ⟨rfl,⟨nd,rfl⟩⟩;refine ⟨_,rfl,?_⟩)|((with_reducible refine ay (f:=147) rfl ?_);refine aH (some 15) rfl rfl Tryz.func147 (by kernel_rfl) rfl #[.int .i64 qj,.int .i64 aoE] rfl zL ?_;(with_reducible refine (iL.calls k1 qj aoE arU _ A6.out).mono ?_);rintro e w' ⟨rfl,⟨nd,rfl⟩⟩;refine ⟨_,rfl,?_⟩));go_roundg k1
      case measure=>have:=HK1.out;omega
      case rel=>exact ⟨(arU),(wrap64 (iR+1)),zT,zT,H',⟨by have:=HK1.out;omega⟩,zW⟩
     ·rw [if_neg c4] at H;exact absurd H (by simp)
    ·rw [if_neg c3] at H;exact absurd H (by simp)
   ·rw [if_neg c2] at H;have oL:=decide_eq_false c2;clear c2;obtain rfl:=Option.some.inj H;go_wp2;go_ret;exact ⟨zT,zW⟩
mutual
def bV.j0:Nat→List Int→Int→Bool→Option (List Int × Int)
 | 0,_,_,_=>none
 | k+1,x0,x4,x26=>if x26=true then (some (([]:List Int),7)) else (bV.l0 k x4 ([]:List Int) x0 (x0.length:Int) 0)
def bV.l0:Nat→Int→List Int→List Int→Int→Int→Option (List Int × Int)
 | 0,_,_,_,_,_=>none
 | k+1,x4,x5,x27,x28,x29=>if x29 < x28 then (if 0≤x29 then (if x29 < (x27.length:Int) then ((bC.f k (rd x27 x29) 1073741824 x4).bind fun alf=>(if x5.length < 17592186044416 then (bV.l0 k x4 (x5 ++ [alf]) x27 x28 (wrap64 (x29+1))) else (none))) else (none)) else (none)) else (some (x5,0))
end
def bV.f (k:Nat) (l0:List Int):Option (List Int × Int):=(iV.f k l0).bind fun xM=>(if ((l0.length:Int) % 2)=0 then (bV.j0 k l0 xM true) else (if (l0.length:Int) > 1024 then (bV.j0 k l0 xM true) else (if xM=0 then (bV.j0 k l0 xM true) else (bV.j0 k l0 xM (decide (xM > 1048576))))))
theorem bV.calls (k:Nat) (A0:Option Addr) (c0:Nat) (l0 r1:List Int) (r2:Int) (w:World) (hr0:Kd.C (Kd.int .i64) w A0 l0.length l0) (hc0:l0.length≤c0) (h:bV.f k l0=some (r1,r2)) :
  Calls Tryz.prog 96 #[.slice A0 l0.length c0] w fun e w'=>∃ v0_:Value,e = .returned (.tuple #[v0_,.int .i64 r2])∧Kd.R (Kd.int .i64) 2 w' w.heap.size (fun _=>True) v0_ r1∧Below w.heap.size w w':=by
 have HR0:=aj.mk hr0;have HC0:=aj.mk hc0;clear hr0 hc0;have HB:=aj.mk (Below.refl w.heap.size w);have H:=h;clear h;unfold bV.f at H;replace H:=zO H;obtain ⟨xM,A2,H⟩:=H;try dsimp only at H
 have HC3:=aj.mk H;clear H;go_enter Tryz.func96,Tryz.ntmps96;go_upto_region 2 with (first|((with_reducible refine ay (f:=117) rfl ?_);refine aH (some 9) rfl rfl Tryz.func117 (by kernel_rfl) rfl #[.slice A0 l0.length c0] rfl zL ?_;(with_reducible refine (iV.calls k _ _ l0 xM _ ?iC ?iD A2.out).mono ?_);(case iC=>repeat (first|exact HR0.out|(with_reducible refine Kd.iT ?_ _)|(with_reducible refine Kd.jg ?_ _)|(with_reducible refine Kd.jH ?_)));(case iD=>exact HC0.out);rintro e w' ⟨rfl,⟨nd,rfl⟩⟩;refine ⟨_,rfl,?_⟩))
 (try simp only [Act.put,List.setIfInBounds_toArray,List.set_cons_zero,List.set_cons_succ])
 go_cut [26] (fun v26 wc=>∃ (kq:Nat) (ac7:Bool),v26 = .bool ac7∧aj (bV.j0 kq l0 xM ac7=some (r1,r2))∧aj (kq≤k)∧aj (Below w.heap.size w wc))
 case first =>
  have H:=HC3.out;clear HC3;by_cases c4:((l0.length:Int) % 2)=0
  ·rw [if_pos c4] at H;have fH:(((l0.length:Int) % 2) == 0)=true:=beq_iff_eq.mpr c4;have aaJ:(((l0.length:Int) % 2) != 0)=false:=bne_eq_false_iff_eq.mpr c4;clear c4
   (first|rw [fH]|(simp only [bP,bU];rw [fH])|skip)
   have H':=aj.mk H;clear H;go_wp2;go_meet
   case rel=>exact ⟨_,(true),zT,H',⟨by first|omega|exact Nat.le_refl _⟩,⟨zB⟩⟩
  ·rw [if_neg c4] at H;have fH:(((l0.length:Int) % 2) == 0)=false:=beq_eq_false_iff_ne.mpr c4;have aaJ:(((l0.length:Int) % 2) != 0)=true:=bne_iff_ne.mpr c4
   (first|rw [fH]|(simp only [bP,bU];rw [fH])|skip)
   by_cases c5:(l0.length:Int) > 1024
   ·rw [if_pos c5] at H;have gJ:=decide_eq_true c5;have abY:decide (1024 < l0.length)=true:=decide_eq_true (by omega);clear c5;have H':=aj.mk H;clear H;go_wp2;go_meet
    case rel=>exact ⟨_,(true),zT,H',⟨by first|omega|exact Nat.le_refl _⟩,⟨zB⟩⟩
   ·rw [if_neg c5] at H;have gJ:=decide_eq_false c5;have abY:decide (1024 < l0.length)=false:=decide_eq_false (by omega);clear c5;by_cases c6:xM=0
    ·rw [if_pos c6] at H;have gI:(xM == 0)=true:=beq_iff_eq.mpr c6;have vS:(xM != 0)=false:=bne_eq_false_iff_eq.mpr c6;clear c6;have H':=aj.mk H;clear H;go_wp2;go_meet
     case rel=>exact ⟨_,(true),zT,H',⟨by first|omega|exact Nat.le_refl _⟩,⟨zB⟩⟩
    ·rw [if_neg c6] at H;have gI:(xM == 0)=false:=beq_eq_false_iff_ne.mpr c6;have vS:(xM != 0)=true:=bne_iff_ne.mpr c6;have H':=aj.mk H;clear H;go_wp2;go_meet
     case rel=>exact ⟨_,(decide (xM > 1048576)),zT,H',⟨by first|omega|exact Nat.le_refl _⟩,⟨zB⟩⟩
 case rest =>
  clear HC3;obtain ⟨kq,ac7,rfl,HA,HJ2,HB⟩:=hcut;cases kq with
  | zero=>exact absurd HA.out (by simp [bV.j0])
  | succ kj2 =>
   have H:=HA.out;clear HA;simp only [bV.j0] at H;by_cases c7:ac7=true
   ·subst c7;rw [if_pos rfl] at H;(try dsimp only at H);simp only [Option.some.injEq,Prod.mk.injEq] at H;obtain ⟨rfl,rfl⟩:=H;go_wp2;go_ret2;exact ⟨_,zS,by first|exact Kd.kQ _ _ _ _ _|exact Kd.qM _ _ _ _ _|exact Kd.oU _ _ _ _ _|exact Kd.qN _ _ _ _ _|exact Kd.qo _ _ _ _ _,zB⟩
   ·replace c7:=Bool.eq_false_iff.mpr c7;subst c7;rw [if_neg (show ¬ (false=true) by decide)] at H;(try dsimp only at H);have H':=aj.mk H;clear H;go_wp2;go_loopg [5,29] kj2 (fun kq v5 v29 w'=>∃ (ou:List Int) (jR:Int),v29 = .int .i64 jR∧aj (bV.l0 kq xM ou l0 (l0.length:Int) jR=some (r1,r2))∧aj (kq≤kj2)∧aj (Kd.R (Kd.int .i64) 2 w' w.heap.size (fun _=>True) v5 ou)∧aj (Below w.heap.size w w'))
    case atStart=>exact ⟨(([]:List Int)),(0),zT,H',⟨Nat.le_refl _⟩,⟨by first|exact Kd.kQ _ _ _ _ _|exact Kd.qM _ _ _ _ _|exact Kd.oU _ _ _ _ _|exact Kd.qN _ _ _ _ _|exact Kd.qo _ _ _ _ _⟩,⟨zB⟩⟩
    case round =>
     clear H';obtain ⟨ou,jR,rfl,HA,HK2,zf,HB⟩:=hrel;cases gk with
     | zero=>exact absurd HA.out (by simp [bV.l0])
     | succ k2 =>
      have H:=HA.out;clear HA;simp only [bV.l0] at H;by_cases c8:jR < (l0.length:Int)
      ·rw [if_pos c8] at H;have qg:=decide_eq_true c8;clear c8;by_cases c9:0≤jR
       ·rw [if_pos c9] at H;have o8:=decide_eq_true c9;clear c9;by_cases c10:jR < (l0.length:Int)
        ·rw [if_pos c10] at H;have mg:=decide_eq_true c10;clear c10;replace H:=zO H;obtain ⟨alf,A11,H⟩:=H;try dsimp only at H
         by_cases c12:ou.length < 17592186044416
         ·rw [if_pos c12] at H;have aBS:=aj.mk c12;clear c12;obtain ⟨azs,aj7⟩:∃ y_:List Int,y_=(ou ++ [alf]):=⟨_,rfl⟩;replace H:(bV.l0 k2 xM azs l0 (l0.length:Int) (wrap64 (jR+1)))=some (r1,r2):=(by first|(rw [aj7];with_reducible exact H)|(have H2_:=(Option.bind_some _ _).symm.trans H;rw [aj7];with_reducible exact H2_)|(have H2_:=(Option.bind_some _ _).symm.trans H;with_reducible exact H2_)|with_reducible exact H|(rw [aj7];exact H)|exact H);have aBT:=aj.mk aj7;clear aj7;have H':=aj.mk H;clear H;have avd:0≤(jR:Int):=of_decide_eq_true (by first|(with_reducible assumption)|assumption);have ave:jR < (l0.length:Int):=of_decide_eq_true (by first|(with_reducible assumption)|assumption);obtain ⟨aHI,aDh,alg⟩:=Kd.iY HR0.out jR avd ave;cases aDh;replace alg:=(HB.out.cell (World.block_lt_of_cell? w _ alg)).trans alg;replace avd:=eq_true avd;replace ave:=eq_true ave;go_wp2_with (first|((with_reducible refine ay (f:=118) rfl ?_);refine aH (some 36) rfl rfl Tryz.func118 (by kernel_rfl) rfl #[.int .i64 (rd l0 jR),.int .i64 1073741824,.int .i64 xM] rfl zL ?_;(with_reducible refine (bC.calls k2 (rd l0 jR) 1073741824 xM alf _ A11.out).mono ?_);rintro e w13 ⟨rfl,hb⟩;refine ⟨_,rfl,?_⟩;obtain ⟨zf,HB⟩:=zA2 (Kd.jE (by (with_reducible repeat (first|apply Kd.aJ|apply Kd.aN|apply Kd.aV));exact zf.out) hb) (ak zB hb);(try clear hb))|((with_reducible refine kR (b := .append) (xs := #[.tmp 33,.tmp 37]) rfl ?_);(try (refine lV (by rfl) ?_;dsimp only));at_builtin;refine Kd.lU (Kd.int .i64) (w0:=w) w.heap.size rfl (.tmp 33) (.tmp 37) 44 2 (.int .i64 0) 8 rfl Tryz.underlying44 yD rfl (by decide) (by omega) u5 ou alf [.int .i64 alf] (fun _=>True) (fun _=>False) rfl rfl ?aP (fun _ hk=>hk.elim) ?aF ?aO ?aB ?aS ?aL ?_;(case aP=>exact rfl);(case aB=>exact zB);(case aF=>exact (fun _ _=>trivial));(case aO=>exact (by (with_reducible repeat (first|apply Kd.aJ|apply Kd.aN|apply Kd.aV));exact zf.out));(case aS=>exact (bW zB));(case aL=>have:=aBS.out;omega);intro aIN w14 ho hb hg hat;rw [← aBT.out] at ho;obtain ⟨HB,aBU⟩:=zA2 hb ho;clear ho hb hg hat));go_roundg k2
          case measure=>have:=HJ2.out;have:=HK2.out;omega
          case rel=>exact ⟨(azs),(wrap64 (jR+1)),zT,H',⟨by have:=HJ2.out;have:=HK2.out;omega⟩,⟨by (with_reducible repeat (first|apply Kd.aJ|apply Kd.aN|apply Kd.aV));exact aBU.out⟩,⟨zB⟩⟩
         ·rw [if_neg c12] at H;exact absurd H (by simp)
        ·rw [if_neg c10] at H;exact absurd H (by simp)
       ·rw [if_neg c9] at H;exact absurd H (by simp)
      ·rw [if_neg c8] at H;have qg:=decide_eq_false c8;clear c8;simp only [Option.some.injEq,Prod.mk.injEq] at H;obtain ⟨rfl,rfl⟩:=H;go_wp2;go_ret2;exact ⟨_,zS,by (with_reducible repeat (first|apply Kd.aJ|apply Kd.aN|apply Kd.aV));exact zf.out,zB⟩
end Go.Proofs.YtpondkggmcmpfaaGreatDoor.QA
