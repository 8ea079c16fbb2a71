/- Joined by wip/tools/bundle.py out of: QAx12 QAx14 QAx15 QAx16 TCore S06P S06W QAx21 QAx45 QAx46 QAx47 QAx54. -/
import Derived.Test.YtpondkggmcmpfaaGreatDoorBDirectFlat2
set_option maxHeartbeats 8000000
set_option maxRecDepth 100000
namespace Go.Proofs.YtpondkggmcmpfaaGreatDoor.QA
open Go.Proofs.YtpondkggmcmpfaaGreatDoor.T
open Go.RowKit Go.Proofs.YtpondkggmcmpfaaGreatDoorW.PrintWords Go.Proofs.YtpondkggmcmpfaaGreatDoorW.PrintLast Go.Proofs.YtpondkggmcmpfaaGreatDoorW.PrintMore
attribute [local go_sem] dV dN dO eP fA
set_option linter.unusedVariables false
set_option linter.unusedSimpArgs false
def xI.f (k:Nat) (a0 a1:Int):Option (Int):=(gB.f a0).bind fun t173=>((gB.f a1).bind fun afH=>((bits_Mul64.f t173 afH).bind fun atA=>(if atA.1=0 then ((dL.f k atA.2 ((decide (a0 < 0)) != (decide (a1 < 0)))).bind fun asc=>(some asc)) else ((dL.f k 18446744073709551615 ((decide (a0 < 0)) != (decide (a1 < 0)))).bind fun ase=>(some ase)))))
theorem xI.calls (k:Nat) (a0 a1 r:Int) (w:World) (h:xI.f k a0 a1=some r) :
  Calls Tryz.prog 181 #[.int .i64 a0,.int .i64 a1] w fun e w'=>e = .returned (.int .i64 r)/\dG w w':=by
 have H:=h;clear h;unfold xI.f at H;replace H:=zO H;obtain ⟨t173,A3,H⟩:=H;try dsimp only at H
 replace H:=zO H;obtain ⟨afH,A4,H⟩:=H;try dsimp only at H
 replace H:=zO H;obtain ⟨⟨t175,aoY⟩,A5,H⟩:=H;try dsimp only at H
 by_cases c6:t175=0
 ·rw [if_pos c6] at H;have iF:(t175 == 0)=true:=beq_iff_eq.mpr c6;have vP:(t175 != 0)=false:=bne_eq_false_iff_eq.mpr c6;clear c6;replace H:=zO H;obtain ⟨asc,A7,H⟩:=H;try dsimp only at H
  obtain rfl:=Option.some.inj H;go_enter Tryz.func181,Tryz.ntmps181;go_wp2_with (first|((with_reducible refine ay (f:=163) rfl ?_);refine aH (some 9) rfl rfl Tryz.func163 (by kernel_rfl) rfl #[.int .i64 a0] rfl zL ?_;(with_reducible refine (gB.calls a0 t173 _ A3.out).mono ?_);rintro e w' ⟨rfl,⟨nd,rfl⟩⟩;refine ⟨_,rfl,?_⟩)|((with_reducible refine ay (f:=163) rfl ?_);refine aH (some 11) rfl rfl Tryz.func163 (by kernel_rfl) rfl #[.int .i64 a1] rfl zL ?_;(with_reducible refine (gB.calls a1 afH _ A4.out).mono ?_);rintro e w' ⟨rfl,⟨nd,rfl⟩⟩;refine ⟨_,rfl,?_⟩)|((with_reducible refine ay (f:=178) rfl ?_);refine aH (some 12) rfl rfl Tryz.func178 (by kernel_rfl) rfl #[.int .u64 t173,.int .u64 afH] rfl zL ?_;(with_reducible refine (bits_Mul64.calls t173 afH t175 aoY _ A5.out).mono ?_);rintro e w' ⟨rfl,⟨nd,rfl⟩⟩;refine ⟨_,rfl,?_⟩)|((with_reducible refine ay (f:=164) rfl ?_);refine aH (some 23) rfl rfl Tryz.func164 (by kernel_rfl) rfl #[.int .u64 aoY,.bool ((decide (a0 < 0)) != (decide (a1 < 0)))] rfl zL ?_;(with_reducible refine (dL.calls k aoY ((decide (a0 < 0)) != (decide (a1 < 0))) asc _ A7.out).mono ?_);rintro e w' ⟨rfl,⟨nd,rfl⟩⟩;refine ⟨_,rfl,?_⟩));go_ret;exact ⟨zT,zW⟩
 ·rw [if_neg c6] at H;have iF:(t175 == 0)=false:=beq_eq_false_iff_ne.mpr c6;have vP:(t175 != 0)=true:=bne_iff_ne.mpr c6;replace H:=zO H;obtain ⟨ase,A8,H⟩:=H;try dsimp only at H
  obtain rfl:=Option.some.inj H;go_enter Tryz.func181,Tryz.ntmps181;go_wp2_with (first|((with_reducible refine ay (f:=163) rfl ?_);refine aH (some 9) rfl rfl Tryz.func163 (by kernel_rfl) rfl #[.int .i64 a0] rfl zL ?_;(with_reducible refine (gB.calls a0 t173 _ A3.out).mono ?_);rintro e w' ⟨rfl,⟨nd,rfl⟩⟩;refine ⟨_,rfl,?_⟩)|((with_reducible refine ay (f:=163) rfl ?_);refine aH (some 11) rfl rfl Tryz.func163 (by kernel_rfl) rfl #[.int .i64 a1] rfl zL ?_;(with_reducible refine (gB.calls a1 afH _ A4.out).mono ?_);rintro e w' ⟨rfl,⟨nd,rfl⟩⟩;refine ⟨_,rfl,?_⟩)|((with_reducible refine ay (f:=178) rfl ?_);refine aH (some 12) rfl rfl Tryz.func178 (by kernel_rfl) rfl #[.int .u64 t173,.int .u64 afH] rfl zL ?_;(with_reducible refine (bits_Mul64.calls t173 afH t175 aoY _ A5.out).mono ?_);rintro e w' ⟨rfl,⟨nd,rfl⟩⟩;refine ⟨_,rfl,?_⟩)|((with_reducible refine ay (f:=164) rfl ?_);refine aH (some 23) rfl rfl Tryz.func164 (by kernel_rfl) rfl #[.int .u64 18446744073709551615,.bool ((decide (a0 < 0)) != (decide (a1 < 0)))] rfl zL ?_;(with_reducible refine (dL.calls k 18446744073709551615 ((decide (a0 < 0)) != (decide (a1 < 0))) ase _ A8.out).mono ?_);rintro e w' ⟨rfl,⟨nd,rfl⟩⟩;refine ⟨_,rfl,?_⟩));go_ret;exact ⟨zT,zW⟩
def vO.f (k:Nat) (a0:Int):Option (Int):=(xI.f k a0 (-1)).bind fun ajo=>(some (mx a0 ajo))
theorem vO.calls (k:Nat) (a0 r:Int) (w:World) (h:vO.f k a0=some r) :
  Calls Tryz.prog 161 #[.int .i64 a0] w fun e w'=>e = .returned (.int .i64 r)/\Below w.heap.size w w':=by
 have HB:=aj.mk (Below.refl w.heap.size w);have H:=h;clear h;unfold vO.f at H;replace H:=zO H;obtain ⟨ajo,A2,H⟩:=H;try dsimp only at H
 obtain ⟨ji3,amh⟩:∃ j_:Int,(mx a0 ajo)=j_:=⟨_,rfl⟩;replace H:(some ji3)=some r:=by first|(rw [amh] at H;exact H)|(simp only [amh] at H ⊢;exact H)
 (try rw [amh] at A2)
 have aDV:(if a0 < ajo then ajo else a0)=ji3:=amh;obtain rfl:=Option.some.inj H;go_enter Tryz.func161,Tryz.ntmps161;go_wp2_with (first|((with_reducible refine ay (f:=181) rfl ?_);refine aH (some 5) rfl rfl Tryz.func181 (by kernel_rfl) rfl #[.int .i64 a0,.int .i64 (-1)] rfl zL ?_;(with_reducible refine (xI.calls k a0 (-1) ajo _ A2.out).mono ?_);rintro e w' ⟨rfl,⟨nd,rfl⟩⟩;refine ⟨_,rfl,?_⟩));go_ret;exact ⟨by first|rfl|(simp [bJ,bK] <;> rfl)|(simp only [<- amh];first|rfl|(simp [bJ,bK] <;> rfl))|(simp [*,bJ,bK] <;> rfl),zB⟩
def mJ.f (a0:Int):Option (Bool):=if a0>=1 then (some (decide (a0<=65536))) else (some false)
theorem mJ.calls (a0:Int) (r:Bool) (w:World) (h:mJ.f a0=some r) :
  Calls Tryz.prog 111 #[.int .i64 a0] w fun e w'=>e = .returned (.bool r)/\dG w w':=by
 have H:=h;clear h;unfold mJ.f at H;by_cases c2:a0>=1
 ·rw [if_pos c2] at H;have nK:=decide_eq_true c2;clear c2;obtain rfl:=Option.some.inj H;go_enter Tryz.func111,Tryz.ntmps111;go_wp2;go_ret;exact ⟨zT,zW⟩
 ·rw [if_neg c2] at H;have nK:=decide_eq_false c2;clear c2;obtain rfl:=Option.some.inj H;go_enter Tryz.func111,Tryz.ntmps111;go_wp2;go_ret;exact ⟨zT,zW⟩
def kU.l0:Nat->Int->List Int->Int->Int->Option (Int)
 | 0,_,_,_,_=>none
 | k+1,x3,x6,x7,x8=>if x8 < x7 then (if 0<=x8 then (if x8 < (x6.length:Int) then ((vO.f k (rd x6 x8)).bind fun ami=>((lH.f k x3 ami).bind fun t182=>(kU.l0 k t182 x6 x7 (wrap64 (x8+1))))) else (none)) else (none)) else (some x3)
def kU.f (k:Nat) (l0:List Int):Option (Int):=kU.l0 k 0 l0 (l0.length:Int) 0
theorem kU.calls (k:Nat) (A0:Option Addr) (c0:Nat) (l0:List Int) (r:Int) (w:World) (hr0:Kd.C (Kd.int .i64) w A0 l0.length l0) (hc0:l0.length<=c0) (h:kU.f k l0=some r) :
  Calls Tryz.prog 138 #[.slice A0 l0.length c0] w fun e w'=>e = .returned (.int .i64 r)/\Below w.heap.size w w':=by
 have HR0:=aj.mk hr0;have HC0:=aj.mk hc0;clear hr0 hc0;have HB:=aj.mk (Below.refl w.heap.size w);have H:=h;clear h;unfold kU.f at H;have H':=aj.mk H;clear H;go_enter Tryz.func138,Tryz.ntmps138;go_wp2;go_loopg [3,8] k (fun kq v3 v8 w'=>∃ (oU:Int) (iE:Int),v3 = .int .i64 oU/\v8 = .int .i64 iE/\aj (kU.l0 kq oU l0 (l0.length:Int) iE=some r)/\aj (kq<=k)/\aj (Below w.heap.size w w'))
 case atStart=>exact ⟨(0),(0),zT,zT,H',⟨Nat.le_refl _⟩,⟨zB⟩⟩
 case round =>
  clear H';obtain ⟨oU,iE,rfl,rfl,HA,HK1,HB⟩:=hrel;cases gk with
  | zero=>exact absurd HA.out (by simp [kU.l0])
  | succ k1 =>
   have H:=HA.out;clear HA;simp only [kU.l0] at H;by_cases c2:iE < (l0.length:Int)
   ·rw [if_pos c2] at H;have nK:=decide_eq_true c2;clear c2;by_cases c3:0<=iE
    ·rw [if_pos c3] at H;have gI:=decide_eq_true c3;clear c3;by_cases c4:iE < (l0.length:Int)
     ·rw [if_pos c4] at H;have fG:=decide_eq_true c4;clear c4;replace H:=zO H;obtain ⟨ami,A5,H⟩:=H;try dsimp only at H
      replace H:=zO H;obtain ⟨t182,A6,H⟩:=H;try dsimp only at H
      have H':=aj.mk H;clear H;have asf:0<=(iE:Int):=of_decide_eq_true (by first|(with_reducible assumption)|assumption);have asg:iE < (l0.length:Int):=of_decide_eq_true (by first|(with_reducible assumption)|assumption);obtain ⟨aDW,azv,ajp⟩:=Kd.iZ HR0.out iE asf asg;cases azv;replace ajp:=(HB.out.cell (World.block_lt_of_cell? w _ ajp)).trans ajp;replace asf:=eq_true asf;replace asg:=eq_true asg;go_wp2_with (first|((with_reducible refine ay (f:=161) rfl ?_);refine aH (some 14) rfl rfl Tryz.func161 (by kernel_rfl) rfl #[.int .i64 (rd l0 iE)] rfl zL ?_;(with_reducible refine (vO.calls k1 (rd l0 iE) ami _ A5.out).mono ?_);rintro e w7 ⟨rfl,hb⟩;refine ⟨_,rfl,?_⟩;replace HB:=aj.mk (ak zB hb);(try clear hb))|((with_reducible refine ay (f:=162) rfl ?_);refine aH (some 15) rfl rfl Tryz.func162 (by kernel_rfl) rfl #[.int .i64 oU,.int .i64 ami] rfl zL ?_;(with_reducible refine (lH.calls k1 oU ami t182 _ A6.out).mono ?_);rintro e w' ⟨rfl,⟨nd,rfl⟩⟩;refine ⟨_,rfl,?_⟩));go_roundg k1
      case measure=>have:=HK1.out;omega
      case rel=>exact ⟨(t182),(wrap64 (iE+1)),zT,zT,H',⟨by have:=HK1.out;omega⟩,⟨zB⟩⟩
     ·rw [if_neg c4] at H;exact absurd H (by simp)
    ·rw [if_neg c3] at H;exact absurd H (by simp)
   ·rw [if_neg c2] at H;have nK:=decide_eq_false c2;clear c2;obtain rfl:=Option.some.inj H;go_wp2;go_ret;exact ⟨zS,zB⟩
def iL.l0:Nat->Int->Int->Int->Int->Int->Option (Int)
 | 0,_,_,_,_,_=>none
 | k+1,x3,x4,x5,x6,x14=>if x14 < 16 then ((bf.f k x6 x4 (wrap64 ((wrap64 (x14+1))*1099511627776))).bind fun t183=>(if (Int.tmod x14 2)=0 then (iL.l0 k x3 x4 (wrap64 (x5 - t183)) t183 (wrap64 (x14+1))) else (iL.l0 k x3 x4 (wrap64 (x5+t183)) t183 (wrap64 (x14+1))))) else ((lF.f x5 x3).bind fun ash=>(some ash))
def iL.f (k:Nat) (a0:Int):Option (Int):=iL.l0 k (wrap64 ((mx 0 a0) / 762123384786)) ((mx 0 a0) % 762123384786) 1099511627776 1099511627776 0
theorem iL.jg:∀ k,(∀ y0 y1 y2 y3 y4,LeO (iL.l0 k y0 y1 y2 y3 y4) (iL.l0 (k+1) y0 y1 y2 y3 y4))
 | 0=>fun _ _ _ _ _ r h=>by simp [iL.l0] at h
 | k+1=>by
  have ih0:=iL.jg k
  ·intro y0 y1 y2 y3 y4;unfold iL.l0;repeat' (with_reducible first|exact ih0 _ _ _ _ _|exact bf.mono _ _ _ _|exact zM|refine LeO.ite ?_ ?_|refine LeO.bind ?_ (fun _ => ?_))
theorem iL.mono:∀ a0 k,LeO (iL.f k a0) (iL.f (k+1) a0):=by
 intro a0 k;have ih0:=iL.jg k;unfold iL.f;repeat' (with_reducible first|exact ih0 _ _ _ _ _|exact bf.mono _ _ _ _|exact zM|refine LeO.ite ?_ ?_|refine LeO.bind ?_ (fun _ => ?_))
theorem iL.calls (k:Nat) (a0 r:Int) (w:World) (h:iL.f k a0=some r) :
  Calls Tryz.prog 167 #[.int .i64 a0] w fun e w'=>e = .returned (.int .i64 r)/\Below w.heap.size w w':=by
 have HB:=aj.mk (Below.refl w.heap.size w);have H:=h;clear h;unfold iL.f at H;obtain ⟨ji2,aaS⟩:∃ j_:Int,(mx 0 a0)=j_:=⟨_,rfl⟩;replace H:(iL.l0 k (wrap64 ((ji2) / 762123384786)) ((ji2) % 762123384786) 1099511627776 1099511627776 0)=some r:=by first|(rw [aaS] at H;exact H)|(simp only [aaS] at H ⊢;exact H)
 (try (have aoZ:0<=ji2:=by (rw [<- aaS];unfold mx;(repeat' split) <;> omega)))
 (try (have aDX:0<=ji2:=by omega))
 have ayi:(if 0 < a0 then a0 else 0)=ji2:=aaS;have H':=aj.mk H;clear H;go_enter Tryz.func167,Tryz.ntmps167;go_wp2;go_loopg [5,6,14] k (fun kq v5 v6 v14 w'=>∃ (aha:Int) (qK:Int) (wu:Int),v5 = .int .i64 aha/\v6 = .int .i64 qK/\v14 = .int .i64 wu/\aj (iL.l0 kq (wrap64 ((ji2) / 762123384786)) ((ji2) % 762123384786) aha qK wu=some r)/\aj (kq<=k)/\aj (Below w.heap.size w w'))
 case atStart=>exact ⟨(1099511627776),(1099511627776),(0),zT,zT,zT,H',⟨Nat.le_refl _⟩,⟨zB⟩⟩
 case round =>
  clear H';obtain ⟨aha,qK,wu,rfl,rfl,rfl,HA,HK1,HB⟩:=hrel;cases gk with
  | zero=>exact absurd HA.out (by simp [iL.l0])
  | succ k1 =>
   have H:=HA.out;clear HA;simp only [iL.l0] at H;by_cases c3:wu < 16
   ·rw [if_pos c3] at H;have gI:=decide_eq_true c3;clear c3;replace H:=zO H;obtain ⟨t183,A4,H⟩:=H;try dsimp only at H
    by_cases c5:(Int.tmod wu 2)=0
    ·rw [if_pos c5] at H;have iy:((Int.tmod wu 2) == 0)=true:=beq_iff_eq.mpr c5;have acn:((Int.tmod wu 2) != 0)=false:=bne_eq_false_iff_eq.mpr c5;clear c5;have H':=aj.mk H;clear H;go_wp2_with (first|((with_reducible refine ay (f:=130) rfl ?_);refine aH (some 22) rfl rfl Tryz.func130 (by kernel_rfl) rfl #[.int .i64 qK,.int .i64 ((ji2) % 762123384786),.int .i64 (wrap64 ((wrap64 (wu+1))*1099511627776))] rfl (by (try simp only [List.map_toArray,List.map_cons,List.map_nil]);first|done|(simp only [aaS];rfl)|(simp only [Int.tdiv_eq_ediv_of_nonneg aoZ];rfl)|rfl|(simp only [List.length_drop,List.length_take];rfl)) ?_;(with_reducible refine (bf.calls k1 qK ((ji2) % 762123384786) (wrap64 ((wrap64 (wu+1))*1099511627776)) t183 _ A4.out).mono ?_);rintro e w' ⟨rfl,⟨nd,rfl⟩⟩;refine ⟨_,rfl,?_⟩));go_roundg k1
     case measure=>have:=HK1.out;omega
     case rel=>exact ⟨(wrap64 (aha - t183)),(t183),(wrap64 (wu+1)),zT,zT,zT,H',⟨by have:=HK1.out;omega⟩,⟨zB⟩⟩
    ·rw [if_neg c5] at H;have iy:((Int.tmod wu 2) == 0)=false:=beq_eq_false_iff_ne.mpr c5;have acn:((Int.tmod wu 2) != 0)=true:=bne_iff_ne.mpr c5;have H':=aj.mk H;clear H;go_wp2_with (first|((with_reducible refine ay (f:=130) rfl ?_);refine aH (some 22) rfl rfl Tryz.func130 (by kernel_rfl) rfl #[.int .i64 qK,.int .i64 ((ji2) % 762123384786),.int .i64 (wrap64 ((wrap64 (wu+1))*1099511627776))] rfl (by (try simp only [List.map_toArray,List.map_cons,List.map_nil]);first|done|(simp only [aaS];rfl)|(simp only [Int.tdiv_eq_ediv_of_nonneg aoZ];rfl)|rfl|(simp only [List.length_drop,List.length_take];rfl)) ?_;(with_reducible refine (bf.calls k1 qK ((ji2) % 762123384786) (wrap64 ((wrap64 (wu+1))*1099511627776)) t183 _ A4.out).mono ?_);rintro e w' ⟨rfl,⟨nd,rfl⟩⟩;refine ⟨_,rfl,?_⟩));go_roundg k1
     case measure=>have:=HK1.out;omega
     case rel=>exact ⟨(wrap64 (aha+t183)),(t183),(wrap64 (wu+1)),zT,zT,zT,H',⟨by have:=HK1.out;omega⟩,⟨zB⟩⟩
   ·rw [if_neg c3] at H;have gI:=decide_eq_false c3;clear c3;replace H:=zO H;obtain ⟨ash,A6,H⟩:=H;try dsimp only at H
    obtain rfl:=Option.some.inj H;go_wp2_with (first|((with_reducible refine ay (f:=100) rfl ?_);refine aH (some 35) rfl rfl Tryz.func100 (by kernel_rfl) rfl #[.int .i64 aha,.int .i64 (wrap64 ((ji2) / 762123384786))] rfl (by (try simp only [List.map_toArray,List.map_cons,List.map_nil]);first|done|(simp only [aaS];rfl)|(simp only [Int.tdiv_eq_ediv_of_nonneg aoZ];rfl)|rfl|(simp only [List.length_drop,List.length_take];rfl)) ?_;(with_reducible refine (lF.calls aha (wrap64 ((ji2) / 762123384786)) ash _ A6.out).mono ?_);rintro e w' ⟨rfl,⟨nd,rfl⟩⟩;refine ⟨_,rfl,?_⟩));go_ret;exact ⟨by first|rfl|(simp [bJ,bK] <;> rfl)|(simp only [<- aaS];first|rfl|(simp [bJ,bK] <;> rfl))|(simp [*,bJ,bK] <;> rfl),zB⟩
def nR.f (k:Nat) (a0 a1:Int):Option (Int):=if a1 < 1 then (some 9223372036854775807) else (if a1 > 4194304 then (some 9223372036854775807) else (if a0 < (-16384) then (some 9223372036854775807) else (if a0 > 16384 then (some 9223372036854775807) else ((bf.f k (wrap64 ((wrap64 (a0*a0))*2147483648)) 1099511627776 (wrap64 (a1*a1))).bind fun asi=>(some asi)))))
theorem nR.mono:∀ a0 a1 k,LeO (nR.f k a0 a1) (nR.f (k+1) a0 a1):=by
 intro a0 a1 k;unfold nR.f;repeat' (with_reducible first|exact bf.mono _ _ _ _|exact zM|refine LeO.ite ?_ ?_|refine LeO.bind ?_ (fun _ => ?_))
theorem nR.calls (k:Nat) (a0 a1 r:Int) (w:World) (h:nR.f k a0 a1=some r) :
  Calls Tryz.prog 168 #[.int .i64 a0,.int .i64 a1] w fun e w'=>e = .returned (.int .i64 r)/\dG w w':=by
 have H:=h;clear h;unfold nR.f at H;by_cases c3:a1 < 1
 ·rw [if_pos c3] at H;have gI:=decide_eq_true c3;clear c3;obtain rfl:=Option.some.inj H;go_enter Tryz.func168,Tryz.ntmps168;go_wp2;go_ret;exact ⟨zT,zW⟩
 ·rw [if_neg c3] at H;have gI:=decide_eq_false c3;clear c3;by_cases c4:a1 > 4194304
  ·rw [if_pos c4] at H;have fG:=decide_eq_true c4;clear c4;obtain rfl:=Option.some.inj H;go_enter Tryz.func168,Tryz.ntmps168;go_wp2;go_ret;exact ⟨zT,zW⟩
  ·rw [if_neg c4] at H;have fG:=decide_eq_false c4;clear c4;by_cases c5:a0 < (-16384)
   ·rw [if_pos c5] at H;have iy:=decide_eq_true c5;clear c5;obtain rfl:=Option.some.inj H;go_enter Tryz.func168,Tryz.ntmps168;go_wp2;go_ret;exact ⟨zT,zW⟩
   ·rw [if_neg c5] at H;have iy:=decide_eq_false c5;clear c5;by_cases c6:a0 > 16384
    ·rw [if_pos c6] at H;have iF:=decide_eq_true c6;clear c6;obtain rfl:=Option.some.inj H;go_enter Tryz.func168,Tryz.ntmps168;go_wp2;go_ret;exact ⟨zT,zW⟩
    ·rw [if_neg c6] at H;have iF:=decide_eq_false c6;clear c6;replace H:=zO H;obtain ⟨asi,A7,H⟩:=H;try dsimp only at H
     obtain rfl:=Option.some.inj H;go_enter Tryz.func168,Tryz.ntmps168;go_wp2_with (first|((with_reducible refine ay (f:=130) rfl ?_);refine aH (some 26) rfl rfl Tryz.func130 (by kernel_rfl) rfl #[.int .i64 (wrap64 ((wrap64 (a0*a0))*2147483648)),.int .i64 1099511627776,.int .i64 (wrap64 (a1*a1))] rfl zL ?_;(with_reducible refine (bf.calls k (wrap64 ((wrap64 (a0*a0))*2147483648)) 1099511627776 (wrap64 (a1*a1)) asi _ A7.out).mono ?_);rintro e w' ⟨rfl,⟨nd,rfl⟩⟩;refine ⟨_,rfl,?_⟩));go_ret;exact ⟨zT,zW⟩
def lK.f (k:Nat) (a0 a1:Int):Option (Int):=(nR.f k a0 a1).bind fun amj=>((iL.f k amj).bind fun amk=>((lF.f amk 10).bind fun asj=>(some asj)))
theorem lK.mono:∀ a0 a1 k,LeO (lK.f k a0 a1) (lK.f (k+1) a0 a1):=by
 intro a0 a1 k;unfold lK.f;repeat' (with_reducible first|exact iL.mono _ _|exact nR.mono _ _ _|exact zM|refine LeO.ite ?_ ?_|refine LeO.bind ?_ (fun _ => ?_))
theorem lK.calls (k:Nat) (a0 a1 r:Int) (w:World) (h:lK.f k a0 a1=some r) :
  Calls Tryz.prog 137 #[.int .i64 a0,.int .i64 a1] w fun e w'=>e = .returned (.int .i64 r)/\Below w.heap.size w w':=by
 have HB:=aj.mk (Below.refl w.heap.size w);have H:=h;clear h;unfold lK.f at H;replace H:=zO H;obtain ⟨amj,A3,H⟩:=H;try dsimp only at H
 replace H:=zO H;obtain ⟨amk,A4,H⟩:=H;try dsimp only at H
 replace H:=zO H;obtain ⟨asj,A5,H⟩:=H;try dsimp only at H
 obtain rfl:=Option.some.inj H;go_enter Tryz.func137,Tryz.ntmps137;go_wp2_with (first|((with_reducible refine ay (f:=168) rfl ?_);refine aH (some 7) rfl rfl Tryz.func168 (by kernel_rfl) rfl #[.int .i64 a0,.int .i64 a1] rfl zL ?_;(with_reducible refine (nR.calls k a0 a1 amj _ A3.out).mono ?_);rintro e w' ⟨rfl,⟨nd,rfl⟩⟩;refine ⟨_,rfl,?_⟩)|((with_reducible refine ay (f:=167) rfl ?_);refine aH (some 8) rfl rfl Tryz.func167 (by kernel_rfl) rfl #[.int .i64 amj] rfl zL ?_;(with_reducible refine (iL.calls k amj amk _ A4.out).mono ?_);rintro e w6 ⟨rfl,hb⟩;refine ⟨_,rfl,?_⟩;replace HB:=aj.mk (ak zB hb);(try clear hb))|((with_reducible refine ay (f:=100) rfl ?_);refine aH (some 9) rfl rfl Tryz.func100 (by kernel_rfl) rfl #[.int .i64 amk,.int .i64 10] rfl zL ?_;(with_reducible refine (lF.calls amk 10 asj _ A5.out).mono ?_);rintro e w' ⟨rfl,⟨nd,rfl⟩⟩;refine ⟨_,rfl,?_⟩));go_ret;exact ⟨zS,zB⟩
mutual
def bF.j0:Nat->Int->Bool->Option (List Int × Int)
 | 0,_,_=>none
 | k+1,x0,x12=>if x12=true then (some (([]:List Int),7)) else (bF.l0 k x0 ((wrap64 ((wrap64 ((wrap64 (3*x0))+65536)) - 1)) / 65536) ([]:List Int) (wrap64 (-((wrap64 ((wrap64 ((wrap64 (3*x0))+65536)) - 1)) / 65536))))
def bF.l0:Nat->Int->Int->List Int->Int->Option (List Int × Int)
 | 0,_,_,_,_=>none
 | k+1,x0,x4,x5,x6=>if x6<=x4 then ((lK.f k x6 x0).bind fun ajq=>(if x5.length < 17592186044416 then (bF.l0 k x0 x4 (x5 ++ [ajq]) (wrap64 (x6+1))) else (none))) else (some (x5,0))
end
def bF.f (k:Nat) (a0:Int):Option (List Int × Int):=if a0 < 1 then (bF.j0 k a0 true) else (bF.j0 k a0 (decide (a0 > 4194304)))
theorem bF.jg:∀ k,(∀ y0 y1,LeO (bF.j0 k y0 y1) (bF.j0 (k+1) y0 y1))/\(∀ y0 y1 y2 y3,LeO (bF.l0 k y0 y1 y2 y3) (bF.l0 (k+1) y0 y1 y2 y3))
 | 0=>⟨fun _ _ r h=>by simp [bF.j0] at h,fun _ _ _ _ r h=>by simp [bF.l0] at h⟩
 | k+1=>by
  obtain ⟨ih0,ih1⟩:=bF.jg k;refine ⟨?_,?_⟩
  ·intro y0 y1;unfold bF.j0;repeat' (with_reducible first|exact ih0 _ _|exact ih1 _ _ _ _|exact lK.mono _ _ _|exact zM|refine LeO.ite ?_ ?_|refine LeO.bind ?_ (fun _ => ?_))
  ·intro y0 y1 y2 y3;unfold bF.l0;repeat' (with_reducible first|exact ih0 _ _|exact ih1 _ _ _ _|exact lK.mono _ _ _|exact zM|refine LeO.ite ?_ ?_|refine LeO.bind ?_ (fun _ => ?_))
theorem bF.mono:∀ a0 k,LeO (bF.f k a0) (bF.f (k+1) a0):=by
 intro a0 k;obtain ⟨ih0,ih1⟩:=bF.jg k;unfold bF.f;repeat' (with_reducible first|exact ih0 _ _|exact ih1 _ _ _ _|exact lK.mono _ _ _|exact zM|refine LeO.ite ?_ ?_|refine LeO.bind ?_ (fun _ => ?_))
theorem bF.calls (k:Nat) (a0:Int) (r1:List Int) (r2:Int) (w:World) (h:bF.f k a0=some (r1,r2)) :
  Calls Tryz.prog 110 #[.int .i64 a0] w fun e w'=>∃ v0_:Value,e = .returned (.tuple #[v0_,.int .i64 r2])/\Kd.R (Kd.int .i64) 2 w' w.heap.size (fun _=>True) v0_ r1/\Below w.heap.size w w':=by
 have HB:=aj.mk (Below.refl w.heap.size w);have H:=h;clear h;unfold bF.f at H;have HC2:=aj.mk H;clear H;go_enter Tryz.func110,Tryz.ntmps110;go_upto_region 1 with (fail);go_cut [12] (fun v12 wc=>∃ (kq:Nat) (abN:Bool),v12 = .bool abN/\aj (bF.j0 kq a0 abN=some (r1,r2))/\aj (kq<=k)/\aj (Below w.heap.size w wc))
 case first =>
  have H:=HC2.out;clear HC2;by_cases c3:a0 < 1
  ·rw [if_pos c3] at H;have gI:=decide_eq_true c3;clear c3
   (first|rw [gI]|(simp only [cZ,dD];rw [gI])|skip)
   have H':=aj.mk H;clear H;go_wp2;go_meet
   case rel=>exact ⟨_,(true),zT,H',⟨by first|omega|exact Nat.le_refl _⟩,⟨zB⟩⟩
  ·rw [if_neg c3] at H;have gI:=decide_eq_false c3;clear c3
   (first|rw [gI]|(simp only [cZ,dD];rw [gI])|skip)
   have H':=aj.mk H;clear H;go_wp2;go_meet
   case rel=>exact ⟨_,(decide (a0 > 4194304)),zT,H',⟨by first|omega|exact Nat.le_refl _⟩,⟨zB⟩⟩
 case rest =>
  clear HC2;obtain ⟨kq,abN,rfl,HA,HJ1,HB⟩:=hcut;cases kq with
  | zero=>exact absurd HA.out (by simp [bF.j0])
  | succ kj1 =>
   have H:=HA.out;clear HA;simp only [bF.j0] at H;by_cases c4:abN=true
   ·subst c4;rw [if_pos rfl] at H;(try dsimp only at H);simp only [Option.some.injEq,Prod.mk.injEq] at H;obtain ⟨rfl,rfl⟩:=H;go_wp2;go_ret2;exact ⟨_,zS,by first|exact Kd.jY _ _ _ _ _|exact Kd.qB _ _ _ _ _|exact Kd.oL _ _ _ _ _|exact Kd.qC _ _ _ _ _|exact Kd.pW _ _ _ _ _,zB⟩
   ·replace c4:=Bool.eq_false_iff.mpr c4;subst c4;rw [if_neg (show ¬ (false=true) by decide)] at H;(try dsimp only at H);have H':=aj.mk H;clear H;go_wp2;go_loopg [5,6] kj1 (fun kq v5 v6 w'=>∃ (ng:List Int) (yh:Int),v6 = .int .i64 yh/\aj (bF.l0 kq a0 ((wrap64 ((wrap64 ((wrap64 (3*a0))+65536)) - 1)) / 65536) ng yh=some (r1,r2))/\aj (kq<=kj1)/\aj (Kd.R (Kd.int .i64) 2 w' w.heap.size (fun _=>True) v5 ng)/\aj (Below w.heap.size w w'))
    case atStart=>exact ⟨(([]:List Int)),(wrap64 (-((wrap64 ((wrap64 ((wrap64 (3*a0))+65536)) - 1)) / 65536))),zT,H',⟨Nat.le_refl _⟩,⟨by first|exact Kd.jY _ _ _ _ _|exact Kd.qB _ _ _ _ _|exact Kd.oL _ _ _ _ _|exact Kd.qC _ _ _ _ _|exact Kd.pW _ _ _ _ _⟩,⟨zB⟩⟩
    case round =>
     clear H';obtain ⟨ng,yh,rfl,HA,HK2,xH,HB⟩:=hrel;cases gk with
     | zero=>exact absurd HA.out (by simp [bF.l0])
     | succ k2 =>
      have H:=HA.out;clear HA;simp only [bF.l0] at H;by_cases c5:yh<=((wrap64 ((wrap64 ((wrap64 (3*a0))+65536)) - 1)) / 65536)
      ·rw [if_pos c5] at H;have iy:=decide_eq_true c5;clear c5;replace H:=zO H;obtain ⟨ajq,A6,H⟩:=H;try dsimp only at H
       by_cases c7:ng.length < 17592186044416
       ·rw [if_pos c7] at H;have azw:=aj.mk c7;clear c7;obtain ⟨av4,ain⟩:∃ y_:List Int,y_=(ng ++ [ajq]):=⟨_,rfl⟩;replace H:(bF.l0 k2 a0 ((wrap64 ((wrap64 ((wrap64 (3*a0))+65536)) - 1)) / 65536) av4 (wrap64 (yh+1)))=some (r1,r2):=(by first|(rw [ain];with_reducible exact H)|(have H2_:=(Option.bind_some _ _).symm.trans H;rw [ain];with_reducible exact H2_)|(have H2_:=(Option.bind_some _ _).symm.trans H;with_reducible exact H2_)|with_reducible exact H|(rw [ain];exact H)|exact H);have ayn:=aj.mk ain;clear ain;have H':=aj.mk H;clear H;go_wp2_with (first|((with_reducible refine ay (f:=137) rfl ?_);refine aH (some 28) rfl rfl Tryz.func137 (by kernel_rfl) rfl #[.int .i64 yh,.int .i64 a0] rfl zL ?_;(with_reducible refine (lK.calls k2 yh a0 ajq _ A6.out).mono ?_);rintro e w8 ⟨rfl,hb⟩;refine ⟨_,rfl,?_⟩;obtain ⟨xH,HB⟩:=zA2 (Kd.jc (by (with_reducible repeat (first|apply Kd.aK|apply Kd.aQ|apply Kd.aW));exact xH.out) hb) (ak zB hb);(try clear hb))|((with_reducible refine jQ (b := .append) (xs := #[.tmp 25,.tmp 29]) rfl ?_);at_builtin;refine Kd.kW (Kd.int .i64) (w0:=w) w.heap.size rfl (.tmp 25) (.tmp 29) 44 2 (.int .i64 0) 8 rfl Tryz.underlying44 wQ rfl (by decide) (by omega) u5 ng ajq [.int .i64 ajq] (fun _=>True) (fun _=>False) rfl rfl ?aP (fun _ hk=>hk.elim) ?aF ?aO ?aB ?aS ?aL ?_;(case aP=>exact rfl);(case aB=>exact zB);(case aF=>exact (fun _ _=>trivial));(case aO=>exact (by (with_reducible repeat (first|apply Kd.aK|apply Kd.aQ|apply Kd.aW));exact xH.out));(case aS=>exact (bT zB));(case aL=>have:=azw.out;omega);intro aEG w9 ho hb hg hat;rw [<- ayn.out] at ho;obtain ⟨HB,ayo⟩:=zA2 hb ho;clear ho hb hg hat));go_roundg k2
        case measure=>have:=HJ1.out;have:=HK2.out;omega
        case rel=>exact ⟨(av4),(wrap64 (yh+1)),zT,H',⟨by have:=HJ1.out;have:=HK2.out;omega⟩,⟨by (with_reducible repeat (first|apply Kd.aK|apply Kd.aQ|apply Kd.aW));exact ayo.out⟩,⟨zB⟩⟩
       ·rw [if_neg c7] at H;exact absurd H (by simp)
      ·rw [if_neg c5] at H;have iy:=decide_eq_false c5;clear c5;simp only [Option.some.injEq,Prod.mk.injEq] at H;obtain ⟨rfl,rfl⟩:=H;go_wp2;go_ret2;exact ⟨_,zS,by (with_reducible repeat (first|apply Kd.aK|apply Kd.aQ|apply Kd.aW));exact xH.out,zB⟩
mutual
def fZ.j0:Nat->List Int->Int->Bool->Option (List Int × Int)
 | 0,_,_,_=>none
 | k+1,x0,x4,x26=>if x26=true then (some (([]:List Int),7)) else (fZ.l0 k x4 ([]:List Int) x0 (x0.length:Int) 0)
def fZ.l0:Nat->Int->List Int->List Int->Int->Int->Option (List Int × Int)
 | 0,_,_,_,_,_=>none
 | k+1,x4,x5,x27,x28,x29=>if x29 < x28 then (if 0<=x29 then (if x29 < (x27.length:Int) then ((bf.f k (rd x27 x29) 1073741824 x4).bind fun ajr=>(if x5.length < 17592186044416 then (fZ.l0 k x4 (x5 ++ [ajr]) x27 x28 (wrap64 (x29+1))) else (none))) else (none)) else (none)) else (some (x5,0))
end
def fZ.f (k:Nat) (l0:List Int):Option (List Int × Int):=(kU.f k l0).bind fun t193=>(if ((l0.length:Int) % 2)=0 then (fZ.j0 k l0 t193 true) else (if (l0.length:Int) > 1024 then (fZ.j0 k l0 t193 true) else (if t193 < 1 then (fZ.j0 k l0 t193 true) else (fZ.j0 k l0 t193 (decide (t193 > 1048576))))))
theorem fZ.calls (k:Nat) (A0:Option Addr) (c0:Nat) (l0 r1:List Int) (r2:Int) (w:World) (hr0:Kd.C (Kd.int .i64) w A0 l0.length l0) (hc0:l0.length<=c0) (h:fZ.f k l0=some (r1,r2)) :
  Calls Tryz.prog 127 #[.slice A0 l0.length c0] w fun e w'=>∃ v0_:Value,e = .returned (.tuple #[v0_,.int .i64 r2])/\Kd.R (Kd.int .i64) 2 w' w.heap.size (fun _=>True) v0_ r1/\Below w.heap.size w w':=by
 have HR0:=aj.mk hr0;have HC0:=aj.mk hc0;clear hr0 hc0;have HB:=aj.mk (Below.refl w.heap.size w);have H:=h;clear h;unfold fZ.f at H;replace H:=zO H;obtain ⟨t193,A2,H⟩:=H;try dsimp only at H
 have HC3:=aj.mk H;clear H;go_enter Tryz.func127,Tryz.ntmps127;go_upto_region 2 with (first|((with_reducible refine ay (f:=138) rfl ?_);refine aH (some 9) rfl rfl Tryz.func138 (by kernel_rfl) rfl #[.slice A0 l0.length c0] rfl zL ?_;(with_reducible refine (kU.calls k _ _ l0 t193 _ ?iW ?iY A2.out).mono ?_);(case iW=>repeat (first|exact HR0.out|(with_reducible refine Kd.jo ?_ _)|(with_reducible refine Kd.jO ?_ _)|(with_reducible refine Kd.lq ?_)));(case iY=>exact HC0.out);rintro e w4 ⟨rfl,hb⟩;refine ⟨_,rfl,?_⟩;replace HB:=aj.mk (ak zB hb);(try clear hb)))
 (try simp only [Act.put,List.setIfInBounds_toArray,List.set_cons_zero,List.set_cons_succ])
 go_cut [26] (fun v26 wc=>∃ (kq:Nat) (abO:Bool),v26 = .bool abO/\aj (fZ.j0 kq l0 t193 abO=some (r1,r2))/\aj (kq<=k)/\aj (Below w.heap.size w wc))
 case first =>
  have H:=HC3.out;clear HC3;by_cases c5:((l0.length:Int) % 2)=0
  ·rw [if_pos c5] at H;have iy:(((l0.length:Int) % 2) == 0)=true:=beq_iff_eq.mpr c5;have acn:(((l0.length:Int) % 2) != 0)=false:=bne_eq_false_iff_eq.mpr c5;clear c5
   (first|rw [iy]|(simp only [cZ,dD];rw [iy])|skip)
   have H':=aj.mk H;clear H;go_wp2;go_meet
   case rel=>exact ⟨_,(true),zT,H',⟨by first|omega|exact Nat.le_refl _⟩,⟨zB⟩⟩
  ·rw [if_neg c5] at H;have iy:(((l0.length:Int) % 2) == 0)=false:=beq_eq_false_iff_ne.mpr c5;have acn:(((l0.length:Int) % 2) != 0)=true:=bne_iff_ne.mpr c5
   (first|rw [iy]|(simp only [cZ,dD];rw [iy])|skip)
   by_cases c6:(l0.length:Int) > 1024
   ·rw [if_pos c6] at H;have iF:=decide_eq_true c6;have vP:decide (1024 < l0.length)=true:=decide_eq_true (by omega);clear c6;have H':=aj.mk H;clear H;go_wp2;go_meet
    case rel=>exact ⟨_,(true),zT,H',⟨by first|omega|exact Nat.le_refl _⟩,⟨zB⟩⟩
   ·rw [if_neg c6] at H;have iF:=decide_eq_false c6;have vP:decide (1024 < l0.length)=false:=decide_eq_false (by omega);clear c6;by_cases c7:t193 < 1
    ·rw [if_pos c7] at H;have jk:=decide_eq_true c7;clear c7;have H':=aj.mk H;clear H;go_wp2;go_meet
     case rel=>exact ⟨_,(true),zT,H',⟨by first|omega|exact Nat.le_refl _⟩,⟨zB⟩⟩
    ·rw [if_neg c7] at H;have jk:=decide_eq_false c7;clear c7;have H':=aj.mk H;clear H;go_wp2;go_meet
     case rel=>exact ⟨_,(decide (t193 > 1048576)),zT,H',⟨by first|omega|exact Nat.le_refl _⟩,⟨zB⟩⟩
 case rest =>
  clear HC3;obtain ⟨kq,abO,rfl,HA,HJ2,HB⟩:=hcut;cases kq with
  | zero=>exact absurd HA.out (by simp [fZ.j0])
  | succ kj2 =>
   have H:=HA.out;clear HA;simp only [fZ.j0] at H;by_cases c8:abO=true
   ·subst c8;rw [if_pos rfl] at H;(try dsimp only at H);simp only [Option.some.injEq,Prod.mk.injEq] at H;obtain ⟨rfl,rfl⟩:=H;go_wp2;go_ret2;exact ⟨_,zS,by first|exact Kd.jY _ _ _ _ _|exact Kd.qB _ _ _ _ _|exact Kd.oL _ _ _ _ _|exact Kd.qC _ _ _ _ _|exact Kd.pW _ _ _ _ _,zB⟩
   ·replace c8:=Bool.eq_false_iff.mpr c8;subst c8;rw [if_neg (show ¬ (false=true) by decide)] at H;(try dsimp only at H);have H':=aj.mk H;clear H;go_wp2;go_loopg [5,29] kj2 (fun kq v5 v29 w'=>∃ (ng:List Int) (mQ:Int),v29 = .int .i64 mQ/\aj (fZ.l0 kq t193 ng l0 (l0.length:Int) mQ=some (r1,r2))/\aj (kq<=kj2)/\aj (Kd.R (Kd.int .i64) 2 w' w.heap.size (fun _=>True) v5 ng)/\aj (Below w.heap.size w w'))
    case atStart=>exact ⟨(([]:List Int)),(0),zT,H',⟨Nat.le_refl _⟩,⟨by first|exact Kd.jY _ _ _ _ _|exact Kd.qB _ _ _ _ _|exact Kd.oL _ _ _ _ _|exact Kd.qC _ _ _ _ _|exact Kd.pW _ _ _ _ _⟩,⟨zB⟩⟩
    case round =>
     clear H';obtain ⟨ng,mQ,rfl,HA,HK2,xH,HB⟩:=hrel;cases gk with
     | zero=>exact absurd HA.out (by simp [fZ.l0])
     | succ k2 =>
      have H:=HA.out;clear HA;simp only [fZ.l0] at H;by_cases c9:mQ < (l0.length:Int)
      ·rw [if_pos c9] at H;have qH:=decide_eq_true c9;clear c9;by_cases c10:0<=mQ
       ·rw [if_pos c10] at H;have pX:=decide_eq_true c10;clear c10;by_cases c11:mQ < (l0.length:Int)
        ·rw [if_pos c11] at H;have iV:=decide_eq_true c11;clear c11;replace H:=zO H;obtain ⟨ajr,A12,H⟩:=H;try dsimp only at H
         by_cases c13:ng.length < 17592186044416
         ·rw [if_pos c13] at H;have ayp:=aj.mk c13;clear c13;obtain ⟨av5,aio⟩:∃ y_:List Int,y_=(ng ++ [ajr]):=⟨_,rfl⟩;replace H:(fZ.l0 k2 t193 av5 l0 (l0.length:Int) (wrap64 (mQ+1)))=some (r1,r2):=(by first|(rw [aio];with_reducible exact H)|(have H2_:=(Option.bind_some _ _).symm.trans H;rw [aio];with_reducible exact H2_)|(have H2_:=(Option.bind_some _ _).symm.trans H;with_reducible exact H2_)|with_reducible exact H|(rw [aio];exact H)|exact H);have ayq:=aj.mk aio;clear aio;have H':=aj.mk H;clear H;have asl:0<=(mQ:Int):=of_decide_eq_true (by first|(with_reducible assumption)|assumption);have asn:mQ < (l0.length:Int):=of_decide_eq_true (by first|(with_reducible assumption)|assumption);obtain ⟨aDY,azx,ajs⟩:=Kd.iZ HR0.out mQ asl asn;cases azx;replace ajs:=(HB.out.cell (World.block_lt_of_cell? w _ ajs)).trans ajs;replace asl:=eq_true asl;replace asn:=eq_true asn;go_wp2_with (first|((with_reducible refine ay (f:=130) rfl ?_);refine aH (some 36) rfl rfl Tryz.func130 (by kernel_rfl) rfl #[.int .i64 (rd l0 mQ),.int .i64 1073741824,.int .i64 t193] rfl zL ?_;(with_reducible refine (bf.calls k2 (rd l0 mQ) 1073741824 t193 ajr _ A12.out).mono ?_);rintro e w' ⟨rfl,⟨nd,rfl⟩⟩;refine ⟨_,rfl,?_⟩)|((with_reducible refine jQ (b := .append) (xs := #[.tmp 33,.tmp 37]) rfl ?_);(try (refine kX (by rfl) ?_;dsimp only));at_builtin;refine Kd.kW (Kd.int .i64) (w0:=w) w.heap.size rfl (.tmp 33) (.tmp 37) 44 2 (.int .i64 0) 8 rfl Tryz.underlying44 wQ rfl (by decide) (by omega) u5 ng ajr [.int .i64 ajr] (fun _=>True) (fun _=>False) rfl rfl ?aP (fun _ hk=>hk.elim) ?aF ?aO ?aB ?aS ?aL ?_;(case aP=>exact rfl);(case aB=>exact zB);(case aF=>exact (fun _ _=>trivial));(case aO=>exact (by (with_reducible repeat (first|apply Kd.aK|apply Kd.aQ|apply Kd.aW));exact xH.out));(case aS=>exact (bT zB));(case aL=>have:=ayp.out;omega);intro aEH w14 ho hb hg hat;rw [<- ayq.out] at ho;obtain ⟨HB,ayr⟩:=zA2 hb ho;clear ho hb hg hat));go_roundg k2
          case measure=>have:=HJ2.out;have:=HK2.out;omega
          case rel=>exact ⟨(av5),(wrap64 (mQ+1)),zT,H',⟨by have:=HJ2.out;have:=HK2.out;omega⟩,⟨by (with_reducible repeat (first|apply Kd.aK|apply Kd.aQ|apply Kd.aW));exact ayr.out⟩,⟨zB⟩⟩
         ·rw [if_neg c13] at H;exact absurd H (by simp)
        ·rw [if_neg c11] at H;exact absurd H (by simp)
       ·rw [if_neg c10] at H;exact absurd H (by simp)
      ·rw [if_neg c9] at H;have qH:=decide_eq_false c9;clear c9;simp only [Option.some.injEq,Prod.mk.injEq] at H;obtain ⟨rfl,rfl⟩:=H;go_wp2;go_ret2;exact ⟨_,zS,by (with_reducible repeat (first|apply Kd.aK|apply Kd.aQ|apply Kd.aW));exact xH.out,zB⟩
end Go.Proofs.YtpondkggmcmpfaaGreatDoor.QA
namespace Go.Proofs.YtpondkggmcmpfaaGreatDoor.T
open Go.RowKit Go.Proofs.YtpondkggmcmpfaaGreatDoorW.PrintWords Go.Proofs.YtpondkggmcmpfaaGreatDoorW.PrintLast Go.Proofs.YtpondkggmcmpfaaGreatDoorW.PrintMore
theorem nO (n:Int):IntKind.u64.wrap n=n % 18446744073709551616:=by simp [IntKind.wrap,IntKind.bits,IntKind.signed]
theorem jS (n:Int):IntKind.i64.wrap n=wrap64 n:=by rw [IntKind.wrap_i64];unfold wrap64;omega
theorem wf64 {x:Int} (h:(Lit.int .i64 x).wf=true) : -9223372036854775808<=x/\x<=9223372036854775807:=by
 simp [Lit.wf,IntKind.min,IntKind.max,IntKind.bits,IntKind.signed] at h;exact h
theorem afP {x:Int} (h:(Lit.int .u16 x).wf=true):0<=x/\x<=65535:=by
 simp [Lit.wf,IntKind.min,IntKind.max,IntKind.bits,IntKind.signed] at h;exact h
theorem aC {x:Int} (h0 : -9223372036854775808<=x) (h1:x<=9223372036854775807):wrap64 x=x:=by unfold wrap64;omega
theorem ahb (k:IntKind) (x:Int) (i:Nat) (hi:i<=k.bits) (hw:k.wrap (x % 2 ^ i)=x % 2 ^ i):bits .and k x (2 ^ i - 1)=x % 2 ^ i:=by
 have hc:((2:Int) ^ i - 1)=((2 ^ i - 1:Nat):Int):=by
   rw [Int.natCast_sub (Nat.two_pow_pos i)];simp
 have h1:(BitVec.ofInt k.bits (2 ^ i - 1)).toNat=2 ^ i - 1:=by
   rw [hc,BitVec.ofInt_natCast,BitVec.toNat_ofNat,Nat.mod_eq_of_lt];exact Nat.lt_of_lt_of_le (Nat.sub_lt (Nat.two_pow_pos i) (by decide)) (Nat.pow_le_pow_right (by decide) hi)
 have h2:(((BitVec.ofInt k.bits x).toNat:Nat):Int)=x % 2 ^ k.bits:=by
   rw [BitVec.toNat_ofInt,Int.toNat_of_nonneg (Int.emod_nonneg _ (by have:=Nat.two_pow_pos k.bits;omega))];simp
 have h3:((((BitVec.ofInt k.bits x) &&& (BitVec.ofInt k.bits (2 ^ i - 1))).toNat:Nat):Int)=x % 2 ^ i:=by
   rw [BitVec.toNat_and,h1,Nat.and_two_pow_sub_one_eq_mod];rw [Int.natCast_emod,h2];simp only [Int.natCast_pow,Int.cast_ofNat_Int];exact Int.emod_emod_of_dvd x ⟨2 ^ (k.bits - i),by rw [<- Int.pow_add];congr 1;omega⟩
 simp only [bits];rw [h3,hw]
theorem afT (x:Int):bits .and .u64 x 1=x % 2:=by
 have:=ahb .u64 x 1 (by decide) (by rw [nO];omega);simpa using this
theorem atZ (x:Int):bits .and .i64 x 1=x % 2:=by
 have:=ahb .i64 x 1 (by decide) (by rw [jS];unfold wrap64;omega);simpa using this
theorem ak2 (x:Int):bits .and .u64 x 4294967295=x % 4294967296:=by
 have:=ahb .u64 x 32 (by decide) (by rw [nO];omega);simpa using this
def hold (m:Int):Int:=if m < -9223372036854775808 then -9223372036854775808 else if m > 9223372036854775807 then 9223372036854775807 else m
theorem auy (m:Int) : -9223372036854775808<=hold m:=by unfold hold;split <;> (try split) <;> omega
theorem am0 (m:Int):hold m<=9223372036854775807:=by unfold hold;split <;> (try split) <;> omega
theorem uT {m:Int} (h0 : -9223372036854775808<=m) (h1:m<=9223372036854775807):hold m=m:=by unfold hold;rw [if_neg (by omega),if_neg (by omega)]
def flo (a b:Int):Int:=if 0 < b then a / b else (-a) / (-b)
def jA (a b:Int):Int:=if 0 < b then (2*a+b) / (2*b) else (2*(-a)+(-b)) / (2*(-b))
def siz (x:Int):Int:=if x < 0 then -x else x
theorem auz {p d:Int} (_hp:0<=p) (hd:0 < d):(2*p+d) / (2*d)=if p % d>=d - p % d then p / d+1 else p / d:=by
 have e:=Int.mul_ediv_add_emod p d;have r0:=Int.emod_nonneg p (Int.ne_of_gt hd);have r1:=Int.emod_lt_of_pos p hd;have e2:2*p+d=(2*d)*(p / d)+(2*(p % d)+d):=(by rw [Int.mul_assoc];omega);rw [e2,Int.add_comm,Int.add_mul_ediv_left _ _ (by omega)];split
 . have:(2*(p % d)+d) / (2*d)=1:=by
     rw [show 2*(p % d)+d=(2*(p % d) - d)+(2*d)*1 from by omega,Int.add_mul_ediv_left _ _ (by omega),Int.ediv_eq_zero_of_lt (by omega) (by omega)];omega
   omega
 . have:(2*(p % d)+d) / (2*d)=0:=Int.ediv_eq_zero_of_lt (by omega) (by omega);omega
theorem auA {p d:Int} (_hp:0<=p) (hd:0 < d):(2*(-p)+d) / (2*d)=if p % d > d - p % d then -(p / d+1) else -(p / d):=by
 have e:=Int.mul_ediv_add_emod p d;have r0:=Int.emod_nonneg p (Int.ne_of_gt hd);have r1:=Int.emod_lt_of_pos p hd;have e2:2*(-p)+d=(2*d)*(-(p / d))+(d - 2*(p % d)):=(by rw [Int.mul_assoc,Int.mul_neg,Int.mul_neg];omega);rw [e2,Int.add_comm,Int.add_mul_ediv_left _ _ (by omega)];split
 . have:(d - 2*(p % d)) / (2*d) = -1:=by
     rw [show d - 2*(p % d)=(3*d - 2*(p % d))+(2*d)*(-1) from by omega,Int.add_mul_ediv_left _ _ (by omega),Int.ediv_eq_zero_of_lt (by omega) (by omega)];omega
   omega
 . have:(d - 2*(p % d)) / (2*d)=0:=Int.ediv_eq_zero_of_lt (by omega) (by omega);omega
def sgn (below:Bool) (m:Int):Int:=if below=true then -m else m
theorem ab7 (a b:Int):sgn ((decide (a < 0)) != (decide (b < 0))) (siz a*siz b)=a*b:=by
 unfold sgn siz;by_cases h:a < 0 <;> by_cases k:b < 0 <;> simp [h,k,Int.neg_mul,Int.mul_neg]
theorem ai5 (a:Int):sgn (decide (a < 0)) (siz a)=a:=by
 unfold sgn siz;by_cases h:a < 0 <;> simp [h]
theorem amY (x:Bool) (d p:Int) (_hd:d≠0):jA (sgn (x != decide (d < 0)) p) (siz d)=jA (sgn x p) d:=by
 unfold sgn siz jA;by_cases k:d < 0
 . rw [if_pos k];rw [if_pos (show 0 < -d from by omega),if_neg (show ¬ 0 < d from by omega)];cases x <;> simp [k]
 . simp [k]
theorem ank (x:Bool) (d p:Int) (_hd:d≠0):flo (sgn (x != decide (d < 0)) p) (siz d)=flo (sgn x p) d:=by
 unfold sgn siz flo;by_cases k:d < 0
 . rw [if_pos k];rw [if_pos (show 0 < -d from by omega),if_neg (show ¬ 0 < d from by omega)];cases x <;> simp [k]
 . simp [k]
theorem adM (below:Bool) {p d:Int} (hp:0<=p) (hd:0 < d) :
   jA (sgn below p) d=sgn below (if below=true then (if p % d > d - p % d then p / d+1 else p / d) else (if p % d>=d - p % d then p / d+1 else p / d)):=by
 unfold jA sgn;rw [if_pos hd];cases below
 . simp only [Bool.false_eq_true,if_false];exact auz hp hd
 . simp only [if_true];rw [auA hp hd];split <;> rfl
theorem neg_ediv {p d:Int} (hd:0 < d):(-p) / d=if p % d=0 then -(p / d) else -(p / d+1):=by
 have e:=Int.mul_ediv_add_emod p d;have r0:=Int.emod_nonneg p (Int.ne_of_gt hd);have r1:=Int.emod_lt_of_pos p hd;rw [show -p = -(p % d)+d*(-(p / d)) from by rw [Int.mul_neg];omega,Int.add_mul_ediv_left _ _ (by omega)];split
 . rename_i h;rw [h];simp
 . have:(-(p % d)) / d = -1:=by
     rw [show -(p % d)=(d - p % d)+d*(-1) from by omega,Int.add_mul_ediv_left _ _ (by omega),Int.ediv_eq_zero_of_lt (by omega) (by omega)];omega
   omega
theorem anl (below:Bool) {p d:Int} (hd:0 < d) :
   flo (sgn below p) d=sgn below (if below=true/\p % d≠0 then p / d+1 else p / d):=by
 unfold flo sgn;rw [if_pos hd];cases below
 . simp
 . simp only [if_true,true_and];rw [neg_ediv hd];by_cases h:p % d=0 <;> simp [h]
abbrev I64 (x:Int):Prop := -9223372036854775808<=x/\x<=9223372036854775807
abbrev U64 (x:Int):Prop:=0<=x/\x < 18446744073709551616
theorem qZ {a:Int} (h:I64 a):0<=siz a/\siz a<=9223372036854775808:=by unfold siz;split <;> omega
theorem adL {a:Int}:siz a=0↔a=0:=by unfold siz;split <;> omega
theorem rZ (m:Int):I64 (hold m):=⟨auy m,am0 m⟩
theorem aml (a:Int) {b:Int} (hb:0 < b):a.tmod b=if 0<=a\/a % b=0 then a % b else a % b - b:=by
 have e:=Int.tmod_eq_emod (a:=a) (b:=b);have hdv:=Int.dvd_iff_emod_eq_zero (a:=b) (b:=a);rw [e];simp only [hdv];split
 . simp
 . rw [Int.natAbs_of_nonneg (by omega)]
def md (a b:Int):Int:=if b=0 then 0 else if 0 < b then a % b else -((-a) % (-b))
def sh (x n:Int):Int:=if n<=0 then x else jA x (2 ^ n.toNat)
theorem pow_pos (n:Nat):(0:Int) < 2 ^ n:=Int.pow_pos (by decide)
theorem nG (n:Nat):(2:Int) ^ (n+1)=2*2 ^ n:=by rw [Int.pow_succ,Int.mul_comm]
theorem sW {m n:Nat} (h:m<=n):(2:Int) ^ m<=2 ^ n:=by
 obtain ⟨d,rfl⟩:=Nat.exists_eq_add_of_le h;rw [Int.pow_add];have h1:=pow_pos m;have h2:=pow_pos d
 calc (2:Int) ^ m=2 ^ m*1:=by rw [Int.mul_one]
   _<=2 ^ m*2 ^ d:=Int.mul_le_mul_of_nonneg_left (by omega) (by omega)
theorem adK (x:Int) (n:Nat) (hn:1<=n):jA x (2 ^ n)=x / 2 ^ n+x / 2 ^ (n - 1) % 2:=by
 obtain ⟨m,rfl⟩:∃ m,n=m+1:=⟨n - 1,by omega⟩;rw [Nat.add_sub_cancel];have hp:=pow_pos m;unfold jA;rw [if_pos (pow_pos _),nG];have e1:(2*x+2*2 ^ m) / (2*(2*2 ^ m))=(x+2 ^ m) / (2*2 ^ m):=by
   rw [<- Int.mul_add];exact Int.mul_ediv_mul_of_pos _ _ (by omega)
 have e2:(x+2 ^ m) / (2*2 ^ m)=(x / 2 ^ m+1) / 2:=by
   rw [Int.mul_comm,<- Int.ediv_ediv_of_nonneg (by omega)];congr 1
   have:=Int.add_mul_ediv_right x 1 (show (2:Int) ^ m≠0 from by omega);rw [Int.one_mul] at this;exact this
 have e3:x / (2*2 ^ m)=x / 2 ^ m / 2:=(by rw [Int.mul_comm,<- Int.ediv_ediv_of_nonneg (by omega)]);rw [e1,e2,e3];omega
theorem agE {x d:Int} (hd:18446744073709551616<=d) (hx:I64 x):jA x d=0:=by
 unfold jA;rw [if_pos (by omega)];exact Int.ediv_eq_zero_of_lt (by omega) (by omega)
theorem ak3 (x:Int):jA x 1=x:=by unfold jA;rw [if_pos (by decide)];omega
theorem xP {a d q r:Int} (h:q*d+r=a) (h0:0<=r) (h1:r < d):a / d=q/\a % d=r:=by
 subst h;constructor
 . rw [Int.add_comm,Int.add_mul_ediv_right _ _ (by omega),Int.ediv_eq_zero_of_lt h0 h1];omega
 . rw [Int.add_comm,Int.add_mul_emod_self_right,Int.emod_eq_of_lt h0 h1]
theorem yQ (a:Int) (n:Nat):a / 2 ^ n=2*(a / 2 ^ (n+1))+a / 2 ^ n % 2:=by
 have e:a / 2 ^ (n+1)=a / 2 ^ n / 2:=(by rw [nG,Int.mul_comm,<- Int.ediv_ediv_of_nonneg (by have:=pow_pos n;omega)]);rw [e];omega
theorem ak5 {x n:Int} (hx:I64 x):I64 (sh x n):=by
 unfold sh;split
 . exact hx
 . by_cases h:64<=n
   . rw [agE (x:=x) _ hx]
     . constructor <;> omega
     . calc (18446744073709551616:Int)=2 ^ 64:=by decide
         _<=2 ^ n.toNat:=sW (by omega)
   . rw [adK x n.toNat (by omega)];have hp:=pow_pos n.toNat;have h2:(2:Int)<=2 ^ n.toNat:=by
       calc (2:Int)=2 ^ 1:=by decide
         _<=2 ^ n.toNat:=sW (by omega)
     have a : -9223372036854775808<=x / 2 ^ n.toNat:=by
       rw [Int.le_ediv_iff_mul_le hp];have : -9223372036854775808*2 ^ n.toNat <= -9223372036854775808*1:=Int.mul_le_mul_of_nonpos_left (by decide) (by omega);omega
     have b:x / 2 ^ n.toNat < 4611686018427387904:=by
       rw [Int.ediv_lt_iff_lt_mul hp]
       calc x < 4611686018427387904*2:=by omega
         _<=4611686018427387904*2 ^ n.toNat:=Int.mul_le_mul_of_nonneg_left h2 (by decide)
     constructor <;> omega
end Go.Proofs.YtpondkggmcmpfaaGreatDoor.T
namespace Go.Proofs.YtpondkggmcmpfaaGreatDoor.S
open Go.Sort
variable {α:Type} [Inhabited α]
set_option linter.unusedVariables false
set_option linter.unusedSectionVars false
theorem swp_size (d:Array α) (i j:Nat):(swp d i j).size=d.size:=by unfold swp;simp
theorem swp_get (d:Array α) {i j:Nat} (hi:i < d.size) (hj:j < d.size) (k:Nat):(swp d i j)[k]! = if k=j then d[i]! else if k=i then d[j]! else d[k]! := by
 unfold swp;by_cases h:k=j
 . subst h;rw [if_pos rfl,getElem!_set_same _ _ _ (by simpa using hj)]
 . rw [if_neg h,getElem!_set_other _ _ _ _ h];by_cases g:k=i
   . subst g;rw [if_pos rfl,getElem!_set_same _ _ _ hi]
   . rw [if_neg g,getElem!_set_other _ _ _ _ g]
def mF (d:Array α) (a b:Nat):Nat->Array α
  | 0=>d
  | n+1=>swp (mF d a b n) (a+n) (b+n)
theorem lC (d:Array α) (a b:Nat):∀ n,(mF d a b n).size=d.size
  | 0=>rfl
  | n+1=>by rw [mF,swp_size,lC d a b n]
theorem acA (d:Array α) (a b:Nat):∀ n,a+n<=b->b+n<=d.size->∀ k,(mF d a b n)[k]! = if a<=k/\k < a+n then d[k - a+b]! else if b<=k/\k < b+n then d[k - b+a]! else d[k]! := by
 intro n;induction n with
 | zero=>intro h1 h2 k;rw [if_neg (by omega),if_neg (by omega)];rfl
 | succ n ih =>
   intro h1 h2 k;have hz:=lC d a b n;rw [mF,swp_get _ (by omega) (by omega)];have i1:=ih (by omega) (by omega);by_cases c1:k=b+n
   . rw [if_pos c1,i1,if_neg (by omega),if_neg (by omega),if_neg (by omega),if_pos (by omega)];exact congrArg (fun q=>d[q]!) (by omega)
   rw [if_neg c1];by_cases c2:k=a+n
   . rw [if_pos c2,i1,if_neg (by omega),if_neg (by omega),if_pos (by omega)];exact congrArg (fun q=>d[q]!) (by omega)
   rw [if_neg c2,i1];by_cases c3:a<=k/\k < a+n
   . rw [if_pos c3,if_pos (by omega)]
   rw [if_neg c3,if_neg (show ¬ (a<=k/\k < a+(n+1)) from by omega)];by_cases c4:b<=k/\k < b+n
   . rw [if_pos c4,if_pos (by omega)]
   rw [if_neg c4,if_neg (by omega)]
def mZ (m:Nat):Nat->Array α->Nat->Nat->Array α
  | 0,d,i,_=>mF d (m - i) m i
  | f+1,d,i,j=>if i=j then mF d (m - i) m i else if j < i then mZ m f (mF d (m - i) m j) (i - j) j else mZ m f (mF d (m - i) (m+j - i) i) i (j - i)
theorem amm (m:Nat):∀ f (d:Array α) i j,(mZ m f d i j).size=d.size:=by
 intro f;induction f with
 | zero=>intro d i j;exact lC _ _ _ _
 | succ f ih =>
   intro d i j;rw [mZ];split
   . exact lC _ _ _ _
   . split
     . rw [ih,lC]
     . rw [ih,lC]
theorem agw (m:Nat):∀ f (d:Array α) i j,i+j<=f+1->1<=i->1<=j->i<=m->m+j<=d.size->∀ k,(mZ m f d i j)[k]! = if m - i<=k/\k < m - i+j then d[k+i]! else if m - i+j<=k/\k < m+j then d[k - j]! else d[k]! := by
 intro f;induction f with
 | zero=>intro d i j hf hi hj;omega
 | succ f ih =>
   intro d i j hf hi hj him hmj k;rw [mZ];by_cases c:i=j
   . subst c;rw [if_pos rfl,acA _ _ _ _ (by omega) (by omega)];by_cases c1:m - i<=k/\k < m - i+i
     . rw [if_pos c1,if_pos c1];exact congrArg (fun q=>d[q]!) (by omega)
     rw [if_neg c1,if_neg c1];by_cases c2:m<=k/\k < m+i
     . rw [if_pos c2,if_pos (by omega)];exact congrArg (fun q=>d[q]!) (by omega)
     rw [if_neg c2,if_neg (by omega)]
   rw [if_neg c];by_cases c0:j < i
   . rw [if_pos c0,ih _ _ _ (by omega) (by omega) hj (by omega) (by rw [lC];omega)];have g:=acA d (m - i) m j (by omega) (by omega);by_cases c1:m - (i - j)<=k/\k < m - (i - j)+j
     . rw [if_pos c1,g,if_neg (show ¬ (m - i<=k+(i - j)/\k+(i - j) < m - i+j) from by omega),if_pos (show m<=k+(i - j)/\k+(i - j) < m+j from by omega),
         if_neg (show ¬ (m - i<=k/\k < m - i+j) from by omega),if_pos (show m - i+j<=k/\k < m+j from by omega)]
       exact congrArg (fun q=>d[q]!) (by omega)
     rw [if_neg c1];by_cases c2:m - (i - j)+j<=k/\k < m+j
     . rw [if_pos c2,g,if_neg (show ¬ (m - i<=k - j/\k - j < m - i+j) from by omega),if_neg (show ¬ (m<=k - j/\k - j < m+j) from by omega),
         if_neg (show ¬ (m - i<=k/\k < m - i+j) from by omega),if_pos (show m - i+j<=k/\k < m+j from by omega)]
     rw [if_neg c2,g];by_cases c3:m - i<=k/\k < m - i+j
     . rw [if_pos c3,if_pos c3];exact congrArg (fun q=>d[q]!) (by omega)
     rw [if_neg c3,if_neg c3,if_neg (show ¬ (m<=k/\k < m+j) from by omega),if_neg (show ¬ (m - i+j<=k/\k < m+j) from by omega)]
   . rw [if_neg c0,ih _ _ _ (by omega) hi (by omega) (by omega) (by rw [lC];omega)];have g:=acA d (m - i) (m+j - i) i (by omega) (by omega);by_cases c1:m - i<=k/\k < m - i+(j - i)
     . rw [if_pos c1,g,if_neg (show ¬ (m - i<=k+i/\k+i < m - i+i) from by omega),if_neg (show ¬ (m+j - i<=k+i/\k+i < m+j - i+i) from by omega),if_pos (show m - i<=k/\k < m - i+j from by omega)]
     rw [if_neg c1];by_cases c2:m - i+(j - i)<=k/\k < m+(j - i)
     . rw [if_pos c2,g,if_pos (show m - i<=k - (j - i)/\k - (j - i) < m - i+i from by omega),if_pos (show m - i<=k/\k < m - i+j from by omega)];exact congrArg (fun q=>d[q]!) (by omega)
     rw [if_neg c2,g];by_cases c4:m - i+j<=k/\k < m+j
     . rw [if_neg (show ¬ (m - i<=k/\k < m - i+i) from by omega),if_pos (show m+j - i<=k/\k < m+j - i+i from by omega),if_neg (show ¬ (m - i<=k/\k < m - i+j) from by omega),if_pos c4];exact congrArg (fun q=>d[q]!) (by omega)
     rw [if_neg (show ¬ (m - i<=k/\k < m - i+i) from by omega),if_neg (show ¬ (m+j - i<=k/\k < m+j - i+i) from by omega),if_neg (show ¬ (m - i<=k/\k < m - i+j) from by omega),if_neg c4]
def Lx (key:α->Int) (idx:α->Nat) (x y:α):Prop:=key y < key x\/key x=key y/\idx x < idx y
theorem Lx.trans {key:α->Int} {idx:α->Nat} {x y z:α} (h:Lx key idx x y) (g:Lx key idx y z):Lx key idx x z:=by
 unfold Lx at *;omega
def Srt (key:α->Int) (idx:α->Nat) (d:Array α) (a b:Nat):Prop:=∀ i j,a<=i->i < j->j < b->Lx key idx d[i]! d[j]!
def Sam (d d':Array α) (a b:Nat):Prop:=d'.size=d.size/\(∀ k,k < a\/b<=k->d'[k]! = d[k]!)/\(∀ k,a<=k->k < b->∃ l,a<=l/\l < b/\d'[k]! = d[l]!)/\(∀ k,a<=k->k < b->∃ l,a<=l/\l < b/\d[k]! = d'[l]!)
theorem Sam.refl (d:Array α) (a b:Nat):Sam d d a b:=⟨rfl,fun _ _=>rfl,fun k h1 h2=>⟨k,h1,h2,rfl⟩,fun k h1 h2=>⟨k,h1,h2,rfl⟩⟩
theorem Sam.trans {d d' d'':Array α} {a b:Nat} (h:Sam d d' a b) (g:Sam d' d'' a b):Sam d d'' a b:=by
 obtain ⟨h1,h2,h3,h4⟩:=h;obtain ⟨g1,g2,g3,g4⟩:=g;refine ⟨g1.trans h1,fun k hk=>(g2 k hk).trans (h2 k hk),fun k a1 a2 => ?_,fun k a1 a2 => ?_⟩
 . obtain ⟨l,l1,l2,l3⟩:=g3 k a1 a2;obtain ⟨m,m1,m2,m3⟩:=h3 l l1 l2;exact ⟨m,m1,m2,l3.trans m3⟩
 . obtain ⟨l,l1,l2,l3⟩:=h4 k a1 a2;obtain ⟨m,m1,m2,m3⟩:=g4 l l1 l2;exact ⟨m,m1,m2,l3.trans m3⟩
theorem Sam.wide {d d':Array α} {a b c e:Nat} (h:Sam d d' a b) (hc:c<=a) (he:b<=e):Sam d d' c e:=by
 obtain ⟨h1,h2,h3,h4⟩:=h;refine ⟨h1,fun k hk=>h2 k (by omega),fun k a1 a2 => ?_,fun k a1 a2 => ?_⟩
 . by_cases c1:a<=k/\k < b
   . obtain ⟨l,l1,l2,l3⟩:=h3 k c1.1 c1.2;exact ⟨l,by omega,by omega,l3⟩
   . exact ⟨k,a1,a2,h2 k (by omega)⟩
 . by_cases c1:a<=k/\k < b
   . obtain ⟨l,l1,l2,l3⟩:=h4 k c1.1 c1.2;exact ⟨l,by omega,by omega,l3⟩
   . exact ⟨k,a1,a2,(h2 k (by omega)).symm⟩
theorem Sam.srt {key:α->Int} {idx:α->Nat} {d d':Array α} {a b c e:Nat} (h:Sam d d' a b) (hs:Srt key idx d c e) (hd:e<=a\/b<=c):Srt key idx d' c e:=by
 intro i j h1 h2 h3;rw [h.2.1 i (by omega),h.2.1 j (by omega)];exact hs i j h1 h2 h3
theorem Sam.swp {d:Array α} {a b i j:Nat} (hi:a<=i/\i < b) (hj:a<=j/\j < b) (hb:b<=d.size):Sam d (swp d i j) a b:=by
 have g:=swp_get d (i:=i) (j:=j) (by omega) (by omega);refine ⟨swp_size _ _ _,fun k hk => ?_,fun k a1 a2 => ?_,fun k a1 a2 => ?_⟩
 . rw [g,if_neg (by omega),if_neg (by omega)]
 . rw [g];by_cases c:k=j
   . rw [if_pos c];exact ⟨i,hi.1,hi.2,rfl⟩
   . rw [if_neg c];by_cases c2:k=i
     . rw [if_pos c2];exact ⟨j,hj.1,hj.2,rfl⟩
     . rw [if_neg c2];exact ⟨k,a1,a2,rfl⟩
 . by_cases c:k=i
   . subst c;exact ⟨j,hj.1,hj.2,by rw [g,if_pos rfl]⟩
   . by_cases c2:k=j
     . subst c2;refine ⟨i,hi.1,hi.2,?_⟩;rw [g,if_neg (by omega),if_pos rfl]
     . exact ⟨k,a1,a2,by rw [g,if_neg c2,if_neg c]⟩
theorem Sam.rot {d:Array α} {m i j:Nat} (hi:1<=i) (hj:1<=j) (him:i<=m) (hmj:m+j<=d.size):Sam d (mZ m (i+j) d i j) (m - i) (m+j):=by
 have g:=agw m (i+j) d i j (by omega) hi hj him hmj;refine ⟨amm _ _ _ _ _,fun k hk => ?_,fun k a1 a2 => ?_,fun k a1 a2 => ?_⟩
 . rw [g,if_neg (by omega),if_neg (by omega)]
 . rw [g];by_cases c:m - i<=k/\k < m - i+j
   . rw [if_pos c];exact ⟨k+i,by omega,by omega,rfl⟩
   . rw [if_neg c,if_pos (by omega)];exact ⟨k - j,by omega,by omega,rfl⟩
 . by_cases c:k < m
   . refine ⟨k+j,by omega,by omega,?_⟩;rw [g,if_neg (by omega),if_pos (by omega)];exact congrArg (fun q=>d[q]!) (by omega)
   . refine ⟨k - i,by omega,by omega,?_⟩;rw [g,if_pos (by omega)];exact congrArg (fun q=>d[q]!) (by omega)
def Mrg (key:α->Int) (idx:α->Nat) (d:Array α) (a m b:Nat):Prop :=
 Srt key idx d a m/\Srt key idx d m b/\(∀ i j,a<=i->i < m->m<=j->j < b->idx d[i]! < idx d[j]!)
theorem ac2 {key:α->Int} {idx:α->Nat} {x y:α} (h:idx x < idx y):(key x < key y↔Lx key idx y x)/\(¬ key x < key y↔Lx key idx x y):=by
 unfold Lx;omega
theorem Srt.join {key:α->Int} {idx:α->Nat} {d:Array α} {a m b:Nat} (h1:Srt key idx d a m) (h2:Srt key idx d m b) (h:∀ i j,a<=i->i < m->m<=j->j < b->Lx key idx d[i]! d[j]!):Srt key idx d a b:=by
 intro i j hi hij hj;by_cases c:j < m
 . exact h1 i j hi hij c
 . by_cases c2:m<=i
   . exact h2 i j c2 hij hj
   . exact h i j hi (by omega) (by omega) hj
def aav (a:Nat):Nat->Array α->Array α
  | 0,d=>d
  | n+1,d=>swp (aav a n d) (a+n) (a+n+1)
theorem ac3 (a:Nat):∀ n (d:Array α),(aav a n d).size=d.size
  | 0,_=>rfl
  | n+1,d=>by rw [aav,swp_size,ac3 a n d]
theorem aso (a:Nat) (d:Array α):∀ n,a+n < d.size->∀ k,(aav a n d)[k]! = if a<=k/\k < a+n then d[k+1]! else if k=a+n then d[a]! else d[k]! := by
 intro n;induction n with
 | zero =>
   intro h k;rw [if_neg (by omega)];by_cases c:k=a+0
   . rw [if_pos c];subst c;rfl
   . rw [if_neg c];rfl
 | succ n ih =>
   intro h k;have hz:=ac3 a n d;have i1:=ih (by omega);rw [aav,swp_get _ (by omega) (by omega)];by_cases c1:k=a+n+1
   . rw [if_pos c1,i1,if_neg (by omega),if_pos rfl,if_neg (by omega),if_pos (by omega)]
   rw [if_neg c1];by_cases c2:k=a+n
   . rw [if_pos c2,i1,if_neg (by omega),if_neg (by omega),if_pos (by omega)];exact congrArg (fun q=>d[q]!) (by omega)
   rw [if_neg c2,i1];by_cases c3:a<=k/\k < a+n
   . rw [if_pos c3,if_pos (by omega)]
   rw [if_neg c3,if_neg (by omega),if_neg (by omega),if_neg (by omega)]
def aaw (m:Nat):Nat->Array α->Array α
  | 0,d=>d
  | n+1,d=>swp (aaw m n d) (m - n) (m - n - 1)
theorem ac4 (m:Nat):∀ n (d:Array α),(aaw m n d).size=d.size
  | 0,_=>rfl
  | n+1,d=>by rw [aaw,swp_size,ac4 m n d]
theorem asq (m:Nat) (d:Array α) (hm:m < d.size):∀ n,n<=m->∀ k,(aaw m n d)[k]! = if m - n < k/\k<=m then d[k - 1]! else if k=m - n then d[m]! else d[k]! := by
 intro n;induction n with
 | zero =>
   intro h k;rw [if_neg (by omega)];by_cases c:k=m - 0
   . rw [if_pos c];subst c;rfl
   . rw [if_neg c];rfl
 | succ n ih =>
   intro h k;have hz:=ac4 m n d;have i1:=ih (by omega);rw [aaw,swp_get _ (by omega) (by omega)];by_cases c1:k=m - n - 1
   . rw [if_pos c1,i1,if_neg (by omega),if_pos rfl,if_neg (by omega),if_pos (by omega)]
   rw [if_neg c1];by_cases c2:k=m - n
   . rw [if_pos c2,i1,if_neg (by omega),if_neg (by omega),if_pos (by omega)];exact congrArg (fun q=>d[q]!) (by omega)
   rw [if_neg c2,i1];by_cases c3:m - n < k/\k<=m
   . rw [if_pos c3,if_pos (by omega)]
   rw [if_neg c3,if_neg (by omega),if_neg (by omega),if_neg (by omega)]
theorem Sam.aav {d:Array α} {a n b:Nat} (hn:a+n < b) (hb:b<=d.size):∀ q,q<=n->Sam d (aav a q d) a b
  | 0,_=>Sam.refl _ _ _
  | q+1,h=>(Sam.aav hn hb q (by omega)).trans (Sam.swp ⟨by omega,by omega⟩ ⟨by omega,by omega⟩ (by rw [ac3];exact hb))
theorem Sam.aaw {d:Array α} {a m n b:Nat} (hn:a+n<=m) (hm:m < b) (hb:b<=d.size):∀ q,q<=n->Sam d (aaw m q d) a b
  | 0,_=>Sam.refl _ _ _
  | q+1,h=>(Sam.aaw hn hm hb q (by omega)).trans (Sam.swp ⟨by omega,by omega⟩ ⟨by omega,by omega⟩ (by rw [ac4];exact hb))
theorem ap1 {key:α->Int} {idx:α->Nat} {d:Array α} {a b i:Nat} (hM:Mrg key idx d a (a+1) b) (hb:b<=d.size) (hi:a+1<=i/\i<=b)
    (h1:i=a+1\/Lx key idx d[i - 1]! d[a]!) (h2:i=b\/Lx key idx d[a]! d[i]!):Srt key idx (aav a (i - 1 - a) d) a b:=by
  obtain ⟨_,s2,_⟩:=hM;have g:=aso a d (i - 1 - a) (by omega);have lo:∀ k,a+1<=k->k < i->Lx key idx d[k]! d[a]! := by
    intro k k1 k2;rcases h1 with h|h
    . omega
    . by_cases c:k=i - 1
      . subst c;exact h
      . exact (s2 k (i - 1) k1 (by omega) (by omega)).trans h
  have hi2:∀ k,i<=k->k < b->Lx key idx d[a]! d[k]! := by
    intro k k1 k2;rcases h2 with h|h
    . omega
    . by_cases c:k=i
      . subst c;exact h
      . exact h.trans (s2 i k (by omega) (by omega) k2)
  intro p q hp hpq hq;rw [g,g];by_cases c1:a<=p/\p < a+(i - 1 - a)
  . rw [if_pos c1];by_cases c2:a<=q/\q < a+(i - 1 - a)
    . rw [if_pos c2];exact s2 _ _ (by omega) (by omega) (by omega)
    . rw [if_neg c2];by_cases c3:q=a+(i - 1 - a)
      . rw [if_pos c3];exact lo _ (by omega) (by omega)
      . rw [if_neg c3];exact s2 _ _ (by omega) (by omega) (by omega)
  . rw [if_neg c1,if_neg (show ¬ (a<=q/\q < a+(i - 1 - a)) from by omega),if_neg (show ¬ q=a+(i - 1 - a) from by omega)];by_cases c3:p=a+(i - 1 - a)
    . rw [if_pos c3];exact hi2 _ (by omega) hq
    . rw [if_neg c3];exact s2 _ _ (by omega) (by omega) hq
theorem asr {key:α->Int} {idx:α->Nat} {d:Array α} {a m i:Nat} (hM:Mrg key idx d a m (m+1)) (hb:m+1<=d.size) (hi:a<=i/\i<=m)
    (h1:i=a\/Lx key idx d[i - 1]! d[m]!) (h2:i=m\/Lx key idx d[m]! d[i]!):Srt key idx (aaw m (m - i) d) a (m+1):=by
  obtain ⟨s1,_,_⟩:=hM;have g:=asq m d (by omega) (m - i) (by omega);have lo:∀ k,a<=k->k < i->Lx key idx d[k]! d[m]! := by
    intro k k1 k2;rcases h1 with h|h
    . omega
    . by_cases c:k=i - 1
      . subst c;exact h
      . exact (s1 k (i - 1) k1 (by omega) (by omega)).trans h
  have hi2:∀ k,i<=k->k < m->Lx key idx d[m]! d[k]! := by
    intro k k1 k2;rcases h2 with h|h
    . omega
    . by_cases c:k=i
      . subst c;exact h
      . exact h.trans (s1 i k (by omega) (by omega) k2)
  intro p q hp hpq hq;rw [g,g];by_cases c1:m - (m - i) < p/\p<=m
  . rw [if_pos c1,if_pos (by omega)];exact s1 _ _ (by omega) (by omega) (by omega)
  . rw [if_neg c1];by_cases c3:p=m - (m - i)
    . rw [if_pos c3,if_pos (by omega)];exact hi2 _ (by omega) (by omega)
    . rw [if_neg c3];by_cases c2:m - (m - i) < q/\q<=m
      . rw [if_pos c2];exact s1 _ _ (by omega) (by omega) (by omega)
      . rw [if_neg c2];by_cases c4:q=m - (m - i)
        . rw [if_pos c4];exact lo _ hp (by omega)
        . rw [if_neg c4];exact s1 _ _ (by omega) (by omega) (by omega)
theorem turned {key:α->Int} {idx:α->Nat} {d d':Array α} {a m b mid s e:Nat} (hM:Mrg key idx d a m b) (ha:a<=s/\s<=m) (he:m<=e/\e<=b) (hse:s+e=m+mid) (hb:b<=d.size)
    (hmid:a<=mid/\mid<=b) (h1:s=a\/e=b\/Lx key idx d[s - 1]! d[e]!) (h2:s=m\/e=m\/Lx key idx d[e - 1]! d[s]!)
    (hd:(s < m/\m < e/\d'=mZ m (m - s+(e - m)) d (m - s) (e - m))\/((s=m\/e=m)/\d'=d)) :
    Sam d d' a b/\Mrg key idx d' a s mid/\Mrg key idx d' mid e b/\∀ i j,a<=i->i < mid->mid<=j->j < b->Lx key idx d'[i]! d'[j]! := by
  obtain ⟨s1,s2,s3⟩:=hM;have A1:∀ k l,a<=k->k < s->e<=l->l < b->Lx key idx d[k]! d[l]! := by
    intro k l k1 k2 l1 l2;rcases h1 with h|h|h
    . omega
    . omega
    . have x:Lx key idx d[k]! d[e]! := by
        by_cases c:k=s - 1
        . subst c;exact h
        . exact (s1 k (s - 1) k1 (by omega) (by omega)).trans h
      by_cases c:l=e
      . subst c;exact x
      . exact x.trans (s2 e l (by omega) (by omega) l2)
  have A2:∀ k l,m<=k->k < e->s<=l->l < m->Lx key idx d[k]! d[l]! := by
    intro k l k1 k2 l1 l2;rcases h2 with h|h|h
    . omega
    . omega
    . have x:Lx key idx d[k]! d[s]! := by
        by_cases c:k=e - 1
        . subst c;exact h
        . exact (s2 k (e - 1) k1 (by omega) (by omega)).trans h
      by_cases c:l=s
      . subst c;exact x
      . exact x.trans (s1 s l (by omega) (by omega) l2)
  have G:Sam d d' a b/\∀ k,d'[k]! = if s<=k/\k < mid then d[k+m - s]! else if mid<=k/\k < e then d[k+s - mid]! else d[k]! := by
    rcases hd with ⟨c1,c2,rfl⟩|⟨c1,rfl⟩
    . have g:=agw m (m - s+(e - m)) d (m - s) (e - m) (by omega) (by omega) (by omega) (by omega) (by omega);refine ⟨(Sam.rot (d:=d) (m:=m) (i:=m - s) (j:=e - m) (by omega) (by omega) (by omega) (by omega)).wide (by omega) (by omega),fun k => ?_⟩;rw [g];by_cases x1:s<=k/\k < mid
      . rw [if_pos x1,if_pos (by omega)];exact congrArg (fun q=>d[q]!) (by omega)
      rw [if_neg x1,if_neg (by omega)];by_cases x2:mid<=k/\k < e
      . rw [if_pos x2,if_pos (by omega)];exact congrArg (fun q=>d[q]!) (by omega)
      rw [if_neg x2,if_neg (by omega)]
    . refine ⟨Sam.refl _ _ _,fun k => ?_⟩;by_cases x1:s<=k/\k < mid
      . rw [if_pos x1];exact congrArg (fun q=>d'[q]!) (by omega)
      rw [if_neg x1];by_cases x2:mid<=k/\k < e
      . rw [if_pos x2];exact congrArg (fun q=>d'[q]!) (by omega)
      rw [if_neg x2]
  obtain ⟨GS,g⟩:=G;have p1:∀ k,a<=k->k < s->d'[k]! = d[k]! := fun k k1 k2=>by rw [g,if_neg (by omega),if_neg (by omega)]
  have p2:∀ k,s<=k->k < mid->d'[k]! = d[k+m - s]! := fun k k1 k2=>by rw [g,if_pos (by omega)]
  have p3:∀ k,mid<=k->k < e->d'[k]! = d[k+s - mid]! := fun k k1 k2=>by rw [g,if_neg (by omega),if_pos (by omega)]
  have p4:∀ k,e<=k->k < b->d'[k]! = d[k]! := fun k k1 k2=>by rw [g,if_neg (by omega),if_neg (by omega)]
  refine ⟨GS,⟨?_,?_,?_⟩,⟨?_,?_,?_⟩,?_⟩
  . intro i j i1 i2 i3;rw [p1 i i1 (by omega),p1 j (by omega) i3];exact s1 i j i1 i2 (by omega)
  . intro i j i1 i2 i3;rw [p2 i i1 (by omega),p2 j (by omega) i3];exact s2 _ _ (by omega) (by omega) (by omega)
  . intro i j i1 i2 i3 i4;rw [p1 i i1 i2,p2 j i3 i4];exact s3 _ _ i1 (by omega) (by omega) (by omega)
  . intro i j i1 i2 i3;rw [p3 i i1 (by omega),p3 j (by omega) i3];exact s1 _ _ (by omega) (by omega) (by omega)
  . intro i j i1 i2 i3;rw [p4 i i1 (by omega),p4 j (by omega) i3];exact s2 _ _ (by omega) (by omega) (by omega)
  . intro i j i1 i2 i3 i4;rw [p3 i i1 i2,p4 j i3 i4];exact s3 _ _ (by omega) (by omega) (by omega) (by omega)
  . intro i j i1 i2 i3 i4;by_cases x1:i < s
    . rw [p1 i i1 x1];by_cases x2:j < e
      . rw [p3 j i3 x2];exact s1 _ _ i1 (by omega) (by omega)
      . rw [p4 j (by omega) i4];exact A1 _ _ i1 x1 (by omega) i4
    . rw [p2 i (by omega) i2];by_cases x2:j < e
      . rw [p3 j i3 x2];exact A2 _ _ (by omega) (by omega) (by omega) (by omega)
      . rw [p4 j (by omega) i4];exact s2 _ _ (by omega) (by omega) i4
theorem Mrg.av6 {key:α->Int} {idx:α->Nat} {d d':Array α} {a m b c e:Nat} (h:Mrg key idx d a m b) (g:Sam d d' c e) (hm:a<=m/\m<=b) (hd:b<=c\/e<=a):Mrg key idx d' a m b:=by
 obtain ⟨s1,s2,s3⟩:=h;have q:∀ k,a<=k->k < b->d'[k]! = d[k]! := fun k k1 k2=>g.2.1 k (by omega);refine ⟨fun i j i1 i2 i3 => ?_,fun i j i1 i2 i3 => ?_,fun i j i1 i2 i3 i4 => ?_⟩
 . rw [q i i1 (by omega),q j (by omega) (by omega)];exact s1 i j i1 i2 i3
 . rw [q i (by omega) (by omega),q j (by omega) i3];exact s2 i j i1 i2 i3
 . rw [q i i1 (by omega),q j (by omega) i4];exact s3 i j i1 i2 i3 i4
end Go.Proofs.YtpondkggmcmpfaaGreatDoor.S
namespace Go.Proofs.YtpondkggmcmpfaaGreatDoor.S
open Go.Shelf Go.RowKit Go.Lib Go.Sort
set_option linter.unusedVariables false
variable {α:Type} [Inhabited α]
set_option maxHeartbeats 4000000 in
set_option maxRecDepth 1000000 in
theorem adl (enc:α->Value) (g:Nat) (cb:Array Value) (blk off cap a b n:Nat) (d0 d:Array α) (w0 w:World)
    (R:Row1 enc w0 blk off d0) (hs:d0.size=d.size) (S:SW enc w0 blk off d w) (ha:a+n<=d.size) (hb:b+n<=d.size) (hsz:d.size < 4611686018427387904) :
    Calls Tryz.prog 192 #[.slice (some ⟨blk,off,none⟩) d.size cap,.int .i64 a,.int .i64 b,.int .i64 n,.func (.func g) #[] cb] w fun e w'=>e = .returned (.tuple #[])/\SW enc w0 blk off (mF d a b n) w':=by
  have mixed:Tryz.prog.follows .mixedOrders=true:=(by kernel_rfl);have hcl0:=R.hO.cells;simp only [Value.cells] at hcl0;have hst:=R.hO.store Tryz.prog;have S0:Aside (SW enc w0 blk off d w):=S;clear S;go_enter Tryz.func192,Tryz.ntmps192;go_wp2;go_loopg [10] n (fun kx s10 wr=>∃ (i:Nat),s10 = .int .i64 i/\i<=n/\n - i<=kx/\Aside (SW enc w0 blk off (mF d a b i) wr))
  case atStart=>exact ⟨0,rfl,by omega,by omega,S0⟩
  case round =>
    clear S0;obtain ⟨i,rfl,hin,hkx,S1⟩:=hrel;have hds:(mF d a b i).size=d.size:=lC _ _ _ _;obtain ⟨dk,hdk⟩:∃ dk,dk=mF d a b i:=⟨_,rfl⟩;rw [<- hdk] at S1 hds;by_cases hlt:(i:Int) < (n:Int)
    . go_wp2_with fail;obtain ⟨iN,hiN⟩:∃ q,q=a+i:=⟨_,rfl⟩;obtain ⟨jN,hjN⟩:∃ q,q=b+i:=⟨_,rfl⟩;have ea:((a:Int)+(i:Int)).toNat=iN:=(by omega);have pa:(0:Int)<=(a:Int)+(i:Int):=(by omega);have ba:(a:Int)+(i:Int) < (d.size:Int):=(by omega);have ra:IntKind.i64.wrap ((a:Int)+(i:Int))=(a:Int)+(i:Int):=(by rw [IntKind.wrap_i64];omega);have ec:((b:Int)+(i:Int)).toNat=jN:=(by omega);have pc:(0:Int)<=(b:Int)+(i:Int):=(by omega);have bc:(b:Int)+(i:Int) < (d.size:Int):=(by omega);have rc:IntKind.i64.wrap ((b:Int)+(i:Int))=(b:Int)+(i:Int):=(by rw [IntKind.wrap_i64];omega);obtain ⟨x,hx⟩:∃ x,x=dk[a+i]! := ⟨_,rfl⟩;obtain ⟨y,hy⟩:∃ x,x=dk[b+i]! := ⟨_,rfl⟩;have S2:Aside (SW enc w0 blk off (swp dk (a+i) (b+i)) ((wr.setCell ⟨blk,off+iN,none⟩ (enc y)).setCell ⟨blk,off+jN,none⟩ (enc x)).drew):=(by rw [hiN,hjN,hx,hy];exact S1.out.swapped R (a+i) (b+i) (by omega) (by omega));have c1a:=S1.out.c1 R (by omega) (a+i) (by omega);have c1b:=S1.out.c1 R (by omega) (b+i) (by omega);have f1a:=S1.out.f1 R (by omega) (a+i) (by omega);have f1b:=S1.out.f1 R (by omega) (b+i) (by omega);obtain ⟨u,c1c⟩:=S1.out.c2 R (by omega) (a+i) (b+i) (by omega) (by omega) (enc y);rw [<- hjN,<- hiN] at c1c;rw [<- hx,<- hiN] at c1a;rw [<- hy,<- hjN] at c1b;rw [<- hiN] at f1a;rw [<- hjN] at f1b;clear S1 hx hy hiN hjN;go_wp2_with fail;go_big_region_o
      clear c1a c1b c1c f1a f1b;generalize ((wr.setCell ⟨blk,off+iN,none⟩ (enc y)).setCell ⟨blk,off+jN,none⟩ (enc x)).drew=w2 at S2 ⊢;clear ea ec;go_wp2;go_roundg (n - (i+1))
      case measure=>omega
      case rel=>exact ⟨i+1,by simp,by omega,Nat.le_refl _,by rw [mF,<- hdk];exact S2⟩
    . go_wp2;go_end0
      have:i=n:=(by omega);subst this;exact ⟨rfl,by rw [<- hdk];exact S1.out⟩
set_option maxHeartbeats 4000000 in
set_option maxRecDepth 1000000 in
theorem asu (enc:α->Value) (g:Nat) (cb:Array Value) (blk off cap a m b:Nat) (d0 d:Array α) (w0 w:World)
    (R:Row1 enc w0 blk off d0) (hs:d0.size=d.size) (S:SW enc w0 blk off d w) (ha:a < m) (hm:m < b) (hb:b<=d.size) (hsz:d.size < 4611686018427387904) :
    Calls Tryz.prog 191 #[.slice (some ⟨blk,off,none⟩) d.size cap,.int .i64 a,.int .i64 m,.int .i64 b,.func (.func g) #[] cb] w fun e w'=>e = .returned (.tuple #[])/\SW enc w0 blk off (mZ m (m - a+(b - m)) d (m - a) (b - m)) w':=by
  have mixed:Tryz.prog.follows .mixedOrders=true:=(by kernel_rfl);have hcl0:=R.hO.cells;simp only [Value.cells] at hcl0;have hst:=R.hO.store Tryz.prog;have S0:Aside (SW enc w0 blk off d w):=S;clear S;have eSR:∀ args w,(callFunc 192 args).run Tryz.prog w = .ok (.enter 192 args) w:=enters_of Tryz.func192 (by kernel_rfl) rfl;have e1:((m - a:Nat):Int)=(m:Int) - (a:Int):=(by omega);have e2:((b - m:Nat):Int)=(b:Int) - (m:Int):=(by omega);have n1:IntKind.i64.wrap ((m:Int) - (a:Int))=(m:Int) - (a:Int):=(by rw [IntKind.wrap_i64];omega);have n2:IntKind.i64.wrap ((b:Int) - (m:Int))=(b:Int) - (m:Int):=(by rw [IntKind.wrap_i64];omega);go_enter Tryz.func191,Tryz.ntmps191;go_wp2
  go_loopg [10,11] (m - a+(b - m)) (fun kx s10 s11 wr=>∃ (i j:Nat) (dk:Array α),s10 = .int .i64 i/\s11 = .int .i64 j/\1<=i/\1<=j/\i<=m/\m+j<=d.size/\i+j<=kx+1/\dk.size=d.size/\Aside (SW enc w0 blk off dk wr) /\
    Hid (mZ m kx dk i j=mZ m (m - a+(b - m)) d (m - a) (b - m)))
  case atStart=>exact ⟨m - a,b - m,d,by simp [e1],by simp [e2],by omega,by omega,by omega,by omega,by omega,rfl,S0,rfl⟩
  case round =>
    clear S0 n1 n2 e1 e2;obtain ⟨i,j,dk,rfl,rfl,hi,hj,him,hmj,hkx,hds,S1,HE⟩:=hrel;have zmi:((m - i:Nat):Int)=(m:Int) - (i:Int):=(by omega);have wmi:IntKind.i64.wrap ((m:Int) - (i:Int))=(m:Int) - (i:Int):=(by rw [IntKind.wrap_i64];omega);by_cases hij:i=j
    . subst hij;have hneq:¬ ((i:Int)≠(i:Int)):=(by omega);have hcall:=adl enc g cb blk off cap (m - i) m i d0 dk w0 wr R (by omega) S1.out (by omega) (by omega) (by omega);rw [hds,zmi] at hcall;have hend:mZ m gk dk i i=mF dk (m - i) m i:=by
        cases gk with
        | zero=>rfl
        | succ f=>rw [mZ,if_pos rfl]
      clear S1;go_wp2_with (go_at_fn 192;refine hcall.mono ?_;rintro e w1 ⟨rfl,S3⟩);go_end0
      refine ⟨rfl,?_⟩;rw [<- HE.out,hend];exact S3
    . have hneq:¬ ((i:Int)=(j:Int)):=(by omega);cases gk with
      | zero=>omega
      | succ f =>
        by_cases hlt:j < i
        . have hgt:(j:Int) < (i:Int):=(by omega);have zij:((i - j:Nat):Int)=(i:Int) - (j:Int):=(by omega);have hcall:=adl enc g cb blk off cap (m - i) m j d0 dk w0 wr R (by omega) S1.out (by omega) (by omega) (by omega);rw [hds,zmi] at hcall;have hstep:mZ m (f+1) dk i j=mZ m f (mF dk (m - i) m j) (i - j) j:=(by rw [mZ,if_neg hij,if_pos hlt]);rw [hstep] at HE;clear S1;go_wp2_with (go_at_fn 192;refine hcall.mono ?_;rintro e w1 ⟨rfl,S3⟩);go_roundg f
          case measure=>omega
          case rel=>exact ⟨i - j,j,_,by first|rw [zij]|simp [zij],rfl,by omega,hj,by omega,hmj,by omega,by rw [lC];exact hds,S3,HE⟩
        . have hgt:¬ (j:Int) < (i:Int):=(by omega);have zji:((j - i:Nat):Int)=(j:Int) - (i:Int):=(by omega);have wmj:IntKind.i64.wrap ((m:Int)+(j:Int))=(m:Int)+(j:Int):=(by rw [IntKind.wrap_i64];omega);have aEI:IntKind.i64.wrap ((m:Int)+(j:Int) - (i:Int))=(m:Int)+(j:Int) - (i:Int):=(by rw [IntKind.wrap_i64];omega);have azy:((m+j - i:Nat):Int)=(m:Int)+(j:Int) - (i:Int):=(by omega);have hcall:=adl enc g cb blk off cap (m - i) (m+j - i) i d0 dk w0 wr R (by omega) S1.out (by omega) (by omega) (by omega);rw [hds,zmi,azy] at hcall;have hstep:mZ m (f+1) dk i j=mZ m f (mF dk (m - i) (m+j - i) i) i (j - i):=(by rw [mZ,if_neg hij,if_neg hlt]);rw [hstep] at HE;clear S1;go_wp2_with (go_at_fn 192;refine hcall.mono ?_;rintro e w1 ⟨rfl,S3⟩);go_roundg f
          case measure=>omega
          case rel=>exact ⟨i,j - i,_,rfl,by first|rw [zji]|simp [zji],hi,by omega,him,by omega,by omega,by rw [lC];exact hds,S3,HE⟩
end Go.Proofs.YtpondkggmcmpfaaGreatDoor.S
namespace Go.Proofs.YtpondkggmcmpfaaGreatDoor.QA
open Go.Proofs.YtpondkggmcmpfaaGreatDoor.T
open Go.RowKit Go.Proofs.YtpondkggmcmpfaaGreatDoorW.PrintWords Go.Proofs.YtpondkggmcmpfaaGreatDoorW.PrintLast Go.Proofs.YtpondkggmcmpfaaGreatDoorW.PrintMore
attribute [local go_sem] dV dN dO eP fA
set_option linter.unusedVariables false
set_option linter.unusedSimpArgs false
def jX.f (a0 a1 a2:Int):Option (Bool):=if a0>=1 then (if a0<=65536 then (if a1>=1 then (if a1<=65536 then (if a2=1 then (some (decide ((wrap64 ((wrap64 (a0*a1))*a2))<=268435456))) else (if a2=3 then (some (decide ((wrap64 ((wrap64 (a0*a1))*a2))<=268435456))) else (some false))) else (some false)) else (some false)) else (some false)) else (some false)
theorem jX.calls (a0 a1 a2:Int) (r:Bool) (w:World) (h:jX.f a0 a1 a2=some r) :
  Calls Tryz.prog 54 #[.int .i64 a0,.int .i64 a1,.int .i64 a2] w fun e w'=>e = .returned (.bool r)/\dG w w':=by
 have H:=h;clear h;unfold jX.f at H;by_cases c4:a0>=1
 ·rw [if_pos c4] at H;have fG:=decide_eq_true c4;clear c4;by_cases c5:a0<=65536
  ·rw [if_pos c5] at H;have iy:=decide_eq_true c5;clear c5;by_cases c6:a1>=1
   ·rw [if_pos c6] at H;have iF:=decide_eq_true c6;clear c6;by_cases c7:a1<=65536
    ·rw [if_pos c7] at H;have jk:=decide_eq_true c7;clear c7;by_cases c8:a2=1
     ·rw [if_pos c8] at H;have vS:(a2 == 1)=true:=beq_iff_eq.mpr c8;have ab4:(a2 != 1)=false:=bne_eq_false_iff_eq.mpr c8;clear c8;obtain rfl:=Option.some.inj H;go_enter Tryz.func54,Tryz.ntmps54;go_wp2;go_ret;exact ⟨by first|rfl|(simp;done)|(simp [*];done)|(simp [Int.tdiv_eq_ediv_of_nonneg (show (0:Int)<=268435456 by decide)];done),zW⟩
     ·rw [if_neg c8] at H;have vS:(a2 == 1)=false:=beq_eq_false_iff_ne.mpr c8;have ab4:(a2 != 1)=true:=bne_iff_ne.mpr c8;by_cases c9:a2=3
      ·rw [if_pos c9] at H;have qH:(a2 == 3)=true:=beq_iff_eq.mpr c9;have ab5:(a2 != 3)=false:=bne_eq_false_iff_eq.mpr c9;clear c9;obtain rfl:=Option.some.inj H;go_enter Tryz.func54,Tryz.ntmps54;go_wp2;go_ret;exact ⟨by first|rfl|(simp;done)|(simp [*];done)|(simp [Int.tdiv_eq_ediv_of_nonneg (show (0:Int)<=268435456 by decide)];done),zW⟩
      ·rw [if_neg c9] at H;have qH:(a2 == 3)=false:=beq_eq_false_iff_ne.mpr c9;have ab5:(a2 != 3)=true:=bne_iff_ne.mpr c9;obtain rfl:=Option.some.inj H;go_enter Tryz.func54,Tryz.ntmps54;go_wp2;go_ret;exact ⟨by first|rfl|(simp;done)|(simp [*];done)|(simp [Int.tdiv_eq_ediv_of_nonneg (show (0:Int)<=268435456 by decide)];done),zW⟩
    ·rw [if_neg c7] at H;have jk:=decide_eq_false c7;clear c7;obtain rfl:=Option.some.inj H;go_enter Tryz.func54,Tryz.ntmps54;go_wp2;go_ret;exact ⟨by first|rfl|(simp;done)|(simp [*];done)|(simp [Int.tdiv_eq_ediv_of_nonneg (show (0:Int)<=268435456 by decide)];done),zW⟩
   ·rw [if_neg c6] at H;have iF:=decide_eq_false c6;clear c6;obtain rfl:=Option.some.inj H;go_enter Tryz.func54,Tryz.ntmps54;go_wp2;go_ret;exact ⟨by first|rfl|(simp;done)|(simp [*];done)|(simp [Int.tdiv_eq_ediv_of_nonneg (show (0:Int)<=268435456 by decide)];done),zW⟩
  ·rw [if_neg c5] at H;have iy:=decide_eq_false c5;clear c5;obtain rfl:=Option.some.inj H;go_enter Tryz.func54,Tryz.ntmps54;go_wp2;go_ret;exact ⟨by first|rfl|(simp;done)|(simp [*];done)|(simp [Int.tdiv_eq_ediv_of_nonneg (show (0:Int)<=268435456 by decide)];done),zW⟩
 ·rw [if_neg c4] at H;have fG:=decide_eq_false c4;clear c4;obtain rfl:=Option.some.inj H;go_enter Tryz.func54,Tryz.ntmps54;go_wp2;go_ret;exact ⟨by first|rfl|(simp;done)|(simp [*];done)|(simp [Int.tdiv_eq_ediv_of_nonneg (show (0:Int)<=268435456 by decide)];done),zW⟩
def abX.f (bn bV kS kT:Int) (je jh:List Int) (lg kC kQ a1 a2:Int):Option (Int × Int):=if bn=3 then (some (kC,kQ)) else (some (a1,a2))
theorem abX.calls (bn bV kS kT:Int) (nU:Option Addr) (nV:Nat) (je:List Int) (oO:Option Addr) (oP:Nat) (jh:List Int) (lg kC kQ a1 a2 r1 r2:Int) (w:World) (zY:Kd.C (Kd.int .i64) w nU je.length je) (zZ:je.length<=nV) (aac:Kd.C (Kd.int .i64) w oO jh.length jh) (aad:jh.length<=oP) (h:abX.f bn bV kS kT je jh lg kC kQ a1 a2=some (r1,r2)) :
  Calls Tryz.prog 55 #[.agg #[.int .i64 bn,.int .i64 bV,.int .i64 kS,.int .i64 kT,.slice nU je.length nV,.slice oO jh.length oP,.int .i64 lg,.int .i64 kC,.int .i64 kQ],.int .i64 a1,.int .i64 a2] w fun e w'=>e = .returned (.tuple #[.int .i64 r1,.int .i64 r2])/\Below w.heap.size w w':=by
 have auU:=Tryz.underlying47;have ahu:=aj.mk zY;have ahv:=aj.mk zZ;clear zY zZ;have akq:=aj.mk aac;have akr:=aj.mk aad;clear aac aad;have HB:=aj.mk (Below.refl w.heap.size w);have H:=h;clear h;unfold abX.f at H;by_cases c4:bn=3
 ·rw [if_pos c4] at H;have fG:(bn == 3)=true:=beq_iff_eq.mpr c4;have aaJ:(bn != 3)=false:=bne_eq_false_iff_eq.mpr c4;clear c4;simp only [Option.some.injEq,Prod.mk.injEq] at H;obtain ⟨rfl,rfl⟩:=H;go_enter Tryz.func55,Tryz.ntmps55;go_wp2_with (first|((with_reducible refine bG (N:=3) rfl ?_);refine bI zR (N:=3) zR (cs := #[.int .i64 bn,.int .i64 bV,.int .i64 kS,.int .i64 kT,.slice nU je.length nV,.slice oO jh.length oP,.int .i64 lg,.int .i64 kC,.int .i64 kQ]) (t:=47) zG ?_;intro aip hg w5 hbox hb;obtain ⟨HB,uo,aiq,air⟩:=zA4 (ak zB hb) hbox (zg hg zB) (zg hg zB);clear hb hbox hg;obtain ⟨_,_,_,_,_,_,_,_,_⟩:=zC9 uo.out;obtain ⟨_,_,_,_,_,_,_,_,_⟩:=zF9 uo.out));repeat (go_quiet (first|((with_reducible refine bG (N:=3) rfl ?_);refine bI zR (N:=3) zR (cs := #[.int .i64 bn,.int .i64 bV,.int .i64 kS,.int .i64 kT,.slice nU je.length nV,.slice oO jh.length oP,.int .i64 lg,.int .i64 kC,.int .i64 kQ]) (t:=47) zG ?_;intro aip hg w5 hbox hb;obtain ⟨HB,uo,aiq,air⟩:=zA4 (ak zB hb) hbox (zg hg zB) (zg hg zB);clear hb hbox hg;obtain ⟨_,_,_,_,_,_,_,_,_⟩:=zC9 uo.out;obtain ⟨_,_,_,_,_,_,_,_,_⟩:=zF9 uo.out));try go_wp2_with (first|((with_reducible refine bG (N:=3) rfl ?_);refine bI zR (N:=3) zR (cs := #[.int .i64 bn,.int .i64 bV,.int .i64 kS,.int .i64 kT,.slice nU je.length nV,.slice oO jh.length oP,.int .i64 lg,.int .i64 kC,.int .i64 kQ]) (t:=47) zG ?_;intro aip hg w5 hbox hb;obtain ⟨HB,uo,aiq,air⟩:=zA4 (ak zB hb) hbox (zg hg zB) (zg hg zB);clear hb hbox hg;obtain ⟨_,_,_,_,_,_,_,_,_⟩:=zC9 uo.out;obtain ⟨_,_,_,_,_,_,_,_,_⟩:=zF9 uo.out)))
  go_ret2;exact ⟨zS,zB⟩
 ·rw [if_neg c4] at H;have fG:(bn == 3)=false:=beq_eq_false_iff_ne.mpr c4;have aaJ:(bn != 3)=true:=bne_iff_ne.mpr c4;simp only [Option.some.injEq,Prod.mk.injEq] at H;obtain ⟨rfl,rfl⟩:=H;go_enter Tryz.func55,Tryz.ntmps55;go_wp2_with (first|((with_reducible refine bG (N:=3) rfl ?_);refine bI zR (N:=3) zR (cs := #[.int .i64 bn,.int .i64 bV,.int .i64 kS,.int .i64 kT,.slice nU je.length nV,.slice oO jh.length oP,.int .i64 lg,.int .i64 kC,.int .i64 kQ]) (t:=47) zG ?_;intro aip hg w7 hbox hb;obtain ⟨HB,uo,aiq,air⟩:=zA4 (ak zB hb) hbox (zg hg zB) (zg hg zB);clear hb hbox hg;obtain ⟨_,_,_,_,_,_,_,_,_⟩:=zC9 uo.out;obtain ⟨_,_,_,_,_,_,_,_,_⟩:=zF9 uo.out));repeat (go_quiet (first|((with_reducible refine bG (N:=3) rfl ?_);refine bI zR (N:=3) zR (cs := #[.int .i64 bn,.int .i64 bV,.int .i64 kS,.int .i64 kT,.slice nU je.length nV,.slice oO jh.length oP,.int .i64 lg,.int .i64 kC,.int .i64 kQ]) (t:=47) zG ?_;intro aip hg w7 hbox hb;obtain ⟨HB,uo,aiq,air⟩:=zA4 (ak zB hb) hbox (zg hg zB) (zg hg zB);clear hb hbox hg;obtain ⟨_,_,_,_,_,_,_,_,_⟩:=zC9 uo.out;obtain ⟨_,_,_,_,_,_,_,_,_⟩:=zF9 uo.out));try go_wp2_with (first|((with_reducible refine bG (N:=3) rfl ?_);refine bI zR (N:=3) zR (cs := #[.int .i64 bn,.int .i64 bV,.int .i64 kS,.int .i64 kT,.slice nU je.length nV,.slice oO jh.length oP,.int .i64 lg,.int .i64 kC,.int .i64 kQ]) (t:=47) zG ?_;intro aip hg w7 hbox hb;obtain ⟨HB,uo,aiq,air⟩:=zA4 (ak zB hb) hbox (zg hg zB) (zg hg zB);clear hb hbox hg;obtain ⟨_,_,_,_,_,_,_,_,_⟩:=zC9 uo.out;obtain ⟨_,_,_,_,_,_,_,_,_⟩:=zF9 uo.out)))
  go_ret2;exact ⟨zS,zB⟩
def eG.j0:Nat->Int->Int->Int->Bool->Option (Bool)
 | 0,_,_,_,_=>none
 | k+1,x0,x1,x2,x20=>if x20=true then (some false) else (if x2=1 then (if x2=0 then (none) else (some (decide ((wrap64 (x0*x1))<=(wrap64 ((268435456:Int) / x2)))))) else (if x2=3 then (if x2=0 then (none) else (some (decide ((wrap64 (x0*x1))<=(wrap64 ((268435456:Int) / x2)))))) else (some false)))
def eG.f (k:Nat) (a0 a1 a2:Int):Option (Bool):=if a0 < 1 then (eG.j0 k a0 a1 a2 true) else (if a0 > 65536 then (eG.j0 k a0 a1 a2 true) else (if a1 < 1 then (eG.j0 k a0 a1 a2 true) else (eG.j0 k a0 a1 a2 (decide (a1 > 65536)))))
theorem eG.calls (k:Nat) (a0 a1 a2:Int) (r:Bool) (w:World) (h:eG.f k a0 a1 a2=some r) :
  Calls Tryz.prog 56 #[.int .i64 a0,.int .i64 a1,.int .i64 a2] w fun e w'=>e = .returned (.bool r)/\dG w w':=by
 have H:=h;clear h;unfold eG.f at H;have HC4:=aj.mk H;clear H;go_enter Tryz.func56,Tryz.ntmps56;go_upto_region 1 with (fail);go_cut [20] (fun v20 wc=>∃ (kq:Nat) (akM:Bool),v20 = .bool akM/\aj (eG.j0 kq a0 a1 a2 akM=some r)/\aj (kq<=k)/\dG w wc)
 case first =>
  have H:=HC4.out;clear HC4;by_cases c5:a0 < 1
  ·rw [if_pos c5] at H;have iy:=decide_eq_true c5;clear c5
   (first|rw [iy]|(simp only [cZ,dD];rw [iy])|skip)
   have H':=aj.mk H;clear H;go_wp2;go_meet
   case rel=>exact ⟨_,(true),zT,H',⟨by first|omega|exact Nat.le_refl _⟩,zW⟩
  ·rw [if_neg c5] at H;have iy:=decide_eq_false c5;clear c5
   (first|rw [iy]|(simp only [cZ,dD];rw [iy])|skip)
   by_cases c6:a0 > 65536
   ·rw [if_pos c6] at H;have iF:=decide_eq_true c6;clear c6;have H':=aj.mk H;clear H;go_wp2;go_meet
    case rel=>exact ⟨_,(true),zT,H',⟨by first|omega|exact Nat.le_refl _⟩,zW⟩
   ·rw [if_neg c6] at H;have iF:=decide_eq_false c6;clear c6;by_cases c7:a1 < 1
    ·rw [if_pos c7] at H;have jk:=decide_eq_true c7;clear c7;have H':=aj.mk H;clear H;go_wp2;go_meet
     case rel=>exact ⟨_,(true),zT,H',⟨by first|omega|exact Nat.le_refl _⟩,zW⟩
    ·rw [if_neg c7] at H;have jk:=decide_eq_false c7;clear c7;have H':=aj.mk H;clear H;go_wp2;go_meet
     case rel=>exact ⟨_,(decide (a1 > 65536)),zT,H',⟨by first|omega|exact Nat.le_refl _⟩,zW⟩
 case rest =>
  clear HC4;obtain ⟨kq,akM,rfl,HA,HJ3,⟨mc3,rfl⟩⟩:=hcut;cases kq with
  | zero=>exact absurd HA.out (by simp [eG.j0])
  | succ kj3 =>
   have H:=HA.out;clear HA;simp only [eG.j0] at H;by_cases c8:akM=true
   ·subst c8;rw [if_pos rfl] at H;(try dsimp only at H);obtain rfl:=Option.some.inj H;go_wp2;go_ret;exact ⟨by first|rfl|(simp;done)|(simp [*];done)|(simp [Int.tdiv_eq_ediv_of_nonneg (show (0:Int)<=268435456 by decide)];done),zW⟩
   ·replace c8:=Bool.eq_false_iff.mpr c8;subst c8;rw [if_neg (show ¬ (false=true) by decide)] at H;(try dsimp only at H);by_cases c9:a2=1
    ·rw [if_pos c9] at H;have qH:(a2 == 1)=true:=beq_iff_eq.mpr c9;have ab5:(a2 != 1)=false:=bne_eq_false_iff_eq.mpr c9;clear c9;by_cases c10:a2=0
     ·rw [if_pos c10] at H;exact absurd H (by simp)
     ·rw [if_neg c10] at H;have pX:(a2 == 0)=false:=beq_eq_false_iff_ne.mpr c10;have ahP:(a2 != 0)=true:=bne_iff_ne.mpr c10;obtain rfl:=Option.some.inj H;go_wp2;go_ret;exact ⟨by first|rfl|(simp;done)|(simp [*];done)|(simp [Int.tdiv_eq_ediv_of_nonneg (show (0:Int)<=268435456 by decide)];done),zW⟩
    ·rw [if_neg c9] at H;have qH:(a2 == 1)=false:=beq_eq_false_iff_ne.mpr c9;have ab5:(a2 != 1)=true:=bne_iff_ne.mpr c9;by_cases c11:a2=3
     ·rw [if_pos c11] at H;have iV:(a2 == 3)=true:=beq_iff_eq.mpr c11;have xM:(a2 != 3)=false:=bne_eq_false_iff_eq.mpr c11;clear c11;by_cases c12:a2=0
      ·rw [if_pos c12] at H;exact absurd H (by simp)
      ·rw [if_neg c12] at H;have aa2:(a2 == 0)=false:=beq_eq_false_iff_ne.mpr c12;have aty:(a2 != 0)=true:=bne_iff_ne.mpr c12;obtain rfl:=Option.some.inj H;go_wp2;go_ret;exact ⟨by first|rfl|(simp;done)|(simp [*];done)|(simp [Int.tdiv_eq_ediv_of_nonneg (show (0:Int)<=268435456 by decide)];done),zW⟩
     ·rw [if_neg c11] at H;have iV:(a2 == 3)=false:=beq_eq_false_iff_ne.mpr c11;have xM:(a2 != 3)=true:=bne_iff_ne.mpr c11;obtain rfl:=Option.some.inj H;go_wp2;go_ret;exact ⟨by first|rfl|(simp;done)|(simp [*];done)|(simp [Int.tdiv_eq_ediv_of_nonneg (show (0:Int)<=268435456 by decide)];done),zW⟩
def bM.f (a0:Int):Option (Bool):=if a0>=1 then (some (decide (a0<=65536))) else (some false)
theorem bM.calls (a0:Int) (r:Bool) (w:World) (h:bM.f a0=some r) :
  Calls Tryz.prog 92 #[.int .i64 a0] w fun e w'=>e = .returned (.bool r)/\dG w w':=by
 have H:=h;clear h;unfold bM.f at H;by_cases c2:a0>=1
 ·rw [if_pos c2] at H;have nK:=decide_eq_true c2;clear c2;obtain rfl:=Option.some.inj H;go_enter Tryz.func92,Tryz.ntmps92;go_wp2;go_ret;exact ⟨by first|rfl|(simp;done)|(simp [*];done)|(simp [Int.tdiv_eq_ediv_of_nonneg (show (0:Int)<=268435456 by decide)];done),zW⟩
 ·rw [if_neg c2] at H;have nK:=decide_eq_false c2;clear c2;obtain rfl:=Option.some.inj H;go_enter Tryz.func92,Tryz.ntmps92;go_wp2;go_ret;exact ⟨by first|rfl|(simp;done)|(simp [*];done)|(simp [Int.tdiv_eq_ediv_of_nonneg (show (0:Int)<=268435456 by decide)];done),zW⟩
def iU.f (a0:Int):Option (Bool):=if a0>=1 then (some (decide (a0<=65536))) else (some false)
theorem iU.calls (a0:Int) (r:Bool) (w:World) (h:iU.f a0=some r) :
  Calls Tryz.prog 113 #[.int .i64 a0] w fun e w'=>e = .returned (.bool r)/\dG w w':=by
 have H:=h;clear h;unfold iU.f at H;by_cases c2:a0>=1
 ·rw [if_pos c2] at H;have nK:=decide_eq_true c2;clear c2;obtain rfl:=Option.some.inj H;go_enter Tryz.func113,Tryz.ntmps113;go_wp2;go_ret;exact ⟨by first|rfl|(simp;done)|(simp [*];done)|(simp [Int.tdiv_eq_ediv_of_nonneg (show (0:Int)<=268435456 by decide)];done),zW⟩
 ·rw [if_neg c2] at H;have nK:=decide_eq_false c2;clear c2;obtain rfl:=Option.some.inj H;go_enter Tryz.func113,Tryz.ntmps113;go_wp2;go_ret;exact ⟨by first|rfl|(simp;done)|(simp [*];done)|(simp [Int.tdiv_eq_ediv_of_nonneg (show (0:Int)<=268435456 by decide)];done),zW⟩
def oV.f (a0 a1 a2:Int):Option (Int):=some (mx a1 (mn a0 a2))
theorem oV.calls (a0 a1 a2 r:Int) (w:World) (h:oV.f a0 a1 a2=some r) :
  Calls Tryz.prog 99 #[.int .i64 a0,.int .i64 a1,.int .i64 a2] w fun e w'=>e = .returned (.int .i64 r)/\Below w.heap.size w w':=by
 have HB:=aj.mk (Below.refl w.heap.size w);have H:=h;clear h;unfold oV.f at H;obtain ⟨ji4,qo⟩:∃ j_:Int,(mn a0 a2)=j_:=⟨_,rfl⟩;replace H:(some (mx a1 (ji4)))=some r:=(by first|(rw [qo] at H;exact H)|(simp only [qo] at H ⊢;exact H));have atx:(if a2 < a0 then a2 else a0)=ji4:=qo;obtain ⟨ji5,yw⟩:∃ j_:Int,(mx a1 (ji4))=j_:=⟨_,rfl⟩;replace H:(some ji5)=some r:=(by first|(rw [yw] at H;exact H)|(simp only [yw] at H ⊢;exact H));have ays:(if a1 < (ji4) then (ji4) else a1)=ji5:=yw;obtain rfl:=Option.some.inj H;go_enter Tryz.func99,Tryz.ntmps99;go_wp2;go_ret;exact ⟨by first|rfl|(simp [bJ,bK] <;> rfl)|(simp only [<- qo,<- yw];first|rfl|(simp [bJ,bK] <;> rfl))|(simp [*,bJ,bK] <;> rfl),zB⟩
def nH.j0:Nat->Int->Int->Int->Bool->Option (Int)
 | 0,_,_,_,_=>none
 | k+1,x0,x1,x2,x13=>if x13=true then (some 0) else (if x0=0 then ((oV.f x1 0 (wrap64 (x2 - 1))).bind fun asv=>(some asv)) else (if x0=1 then ((jF.f k x1 (wrap64 (2*x2))).bind fun adn=>(some (mn adn (wrap64 ((wrap64 ((wrap64 (2*x2)) - 1)) - adn))))) else (if x0=2 then ((jF.f k x1 x2).bind fun asw=>(some asw)) else (some 0))))
def nH.f (k:Nat) (a0 a1 a2:Int):Option (Int):=if a2 < 1 then (nH.j0 k a0 a1 a2 true) else (nH.j0 k a0 a1 a2 (decide (a2 > 65536)))
theorem nH.calls (k:Nat) (a0 a1 a2 r:Int) (w:World) (h:nH.f k a0 a1 a2=some r) :
  Calls Tryz.prog 80 #[.int .i64 a0,.int .i64 a1,.int .i64 a2] w fun e w'=>e = .returned (.int .i64 r)/\Below w.heap.size w w':=by
 have HB:=aj.mk (Below.refl w.heap.size w);have H:=h;clear h;unfold nH.f at H;have HC4:=aj.mk H;clear H;go_enter Tryz.func80,Tryz.ntmps80;go_upto_region 1 with (fail);go_cut [13] (fun v13 wc=>∃ (kq:Nat) (abK:Bool),v13 = .bool abK/\aj (nH.j0 kq a0 a1 a2 abK=some r)/\aj (kq<=k)/\aj (Below w.heap.size w wc))
 case first =>
  have H:=HC4.out;clear HC4;by_cases c5:a2 < 1
  ·rw [if_pos c5] at H;have iy:=decide_eq_true c5;clear c5
   (first|rw [iy]|(simp only [cZ,dD];rw [iy])|skip)
   have H':=aj.mk H;clear H;go_wp2;go_meet
   case rel=>exact ⟨_,(true),zT,H',⟨by first|omega|exact Nat.le_refl _⟩,⟨zB⟩⟩
  ·rw [if_neg c5] at H;have iy:=decide_eq_false c5;clear c5
   (first|rw [iy]|(simp only [cZ,dD];rw [iy])|skip)
   have H':=aj.mk H;clear H;go_wp2;go_meet
   case rel=>exact ⟨_,(decide (a2 > 65536)),zT,H',⟨by first|omega|exact Nat.le_refl _⟩,⟨zB⟩⟩
 case rest =>
  clear HC4;obtain ⟨kq,abK,rfl,HA,HJ3,HB⟩:=hcut;cases kq with
  | zero=>exact absurd HA.out (by simp [nH.j0])
  | succ kj3 =>
   have H:=HA.out;clear HA;simp only [nH.j0] at H;by_cases c6:abK=true
   ·subst c6;rw [if_pos rfl] at H;(try dsimp only at H);obtain rfl:=Option.some.inj H;go_wp2;go_ret;exact ⟨zS,zB⟩
   ·replace c6:=Bool.eq_false_iff.mpr c6;subst c6;rw [if_neg (show ¬ (false=true) by decide)] at H;(try dsimp only at H);by_cases c7:a0=0
    ·rw [if_pos c7] at H;have jk:(a0 == 0)=true:=beq_iff_eq.mpr c7;have aaB:(a0 != 0)=false:=bne_eq_false_iff_eq.mpr c7;clear c7;replace H:=zO H;obtain ⟨asv,A8,H⟩:=H;try dsimp only at H
     obtain rfl:=Option.some.inj H;go_wp2_with (first|((with_reducible refine ay (f:=99) rfl ?_);refine aH (some 20) rfl rfl Tryz.func99 (by kernel_rfl) rfl #[.int .i64 a1,.int .i64 0,.int .i64 (wrap64 (a2 - 1))] rfl zL ?_;(with_reducible refine (oV.calls a1 0 (wrap64 (a2 - 1)) asv _ A8.out).mono ?_);rintro e w9 ⟨rfl,hb⟩;refine ⟨_,rfl,?_⟩;replace HB:=aj.mk (ak zB hb);(try clear hb)));go_ret;exact ⟨zS,zB⟩
    ·rw [if_neg c7] at H;have jk:(a0 == 0)=false:=beq_eq_false_iff_ne.mpr c7;have aaB:(a0 != 0)=true:=bne_iff_ne.mpr c7;by_cases c10:a0=1
     ·rw [if_pos c10] at H;have pX:(a0 == 1)=true:=beq_iff_eq.mpr c10;have ahP:(a0 != 1)=false:=bne_eq_false_iff_eq.mpr c10;clear c10;replace H:=zO H;obtain ⟨adn,A11,H⟩:=H;try dsimp only at H
      obtain ⟨jD,pY⟩:∃ j_:Int,(mn adn (wrap64 ((wrap64 ((wrap64 (2*a2)) - 1)) - adn)))=j_:=⟨_,rfl⟩;replace H:(some jD)=some r:=by first|(rw [pY] at H;exact H)|(simp only [pY] at H ⊢;exact H)
      (try rw [pY] at A11)
      have avT:(if (wrap64 ((wrap64 ((wrap64 (2*a2)) - 1)) - adn)) < adn then (wrap64 ((wrap64 ((wrap64 (2*a2)) - 1)) - adn)) else adn)=jD:=pY;obtain rfl:=Option.some.inj H;go_wp2_with (first|((with_reducible refine ay (f:=103) rfl ?_);refine aH (some 26) rfl rfl Tryz.func103 (by kernel_rfl) rfl #[.int .i64 a1,.int .i64 (wrap64 (2*a2))] rfl zL ?_;(with_reducible refine (jF.calls kj3 a1 (wrap64 (2*a2)) adn _ A11.out).mono ?_);rintro e w' ⟨rfl,⟨nd,rfl⟩⟩;refine ⟨_,rfl,?_⟩));go_ret;exact ⟨by first|rfl|(simp [bJ,bK] <;> rfl)|(simp only [<- pY];first|rfl|(simp [bJ,bK] <;> rfl))|(simp [*,bJ,bK] <;> rfl),zB⟩
     ·rw [if_neg c10] at H;have pX:(a0 == 1)=false:=beq_eq_false_iff_ne.mpr c10;have ahP:(a0 != 1)=true:=bne_iff_ne.mpr c10;by_cases c13:a0=2
      ·rw [if_pos c13] at H;have aa1:(a0 == 2)=true:=beq_iff_eq.mpr c13;have aii:(a0 != 2)=false:=bne_eq_false_iff_eq.mpr c13;clear c13;replace H:=zO H;obtain ⟨asw,A14,H⟩:=H;try dsimp only at H
       obtain rfl:=Option.some.inj H;go_wp2_with (first|((with_reducible refine ay (f:=103) rfl ?_);refine aH (some 38) rfl rfl Tryz.func103 (by kernel_rfl) rfl #[.int .i64 a1,.int .i64 a2] rfl zL ?_;(with_reducible refine (jF.calls kj3 a1 a2 asw _ A14.out).mono ?_);rintro e w' ⟨rfl,⟨nd,rfl⟩⟩;refine ⟨_,rfl,?_⟩));go_ret;exact ⟨zS,zB⟩
      ·rw [if_neg c13] at H;have aa1:(a0 == 2)=false:=beq_eq_false_iff_ne.mpr c13;have aii:(a0 != 2)=true:=bne_iff_ne.mpr c13;obtain rfl:=Option.some.inj H;go_wp2;go_ret;exact ⟨zS,zB⟩
def uX.f (a0 a1:Int):Option (Int):=(lF.f a0 28).bind fun ahc=>((oV.f ahc 0 (mx 0 (mn a1 65535))).bind fun ahd=>(some (IntKind.u16.wrap (ahd))))
theorem uX.calls (a0 a1 r:Int) (w:World) (h:uX.f a0 a1=some r) :
  Calls Tryz.prog 74 #[.int .i64 a0,.int .i64 a1] w fun e w'=>e = .returned (.int .u16 r)/\Below w.heap.size w w':=by
 have HB:=aj.mk (Below.refl w.heap.size w);have H:=h;clear h;unfold uX.f at H;replace H:=zO H;obtain ⟨ahc,A3,H⟩:=H;try dsimp only at H
 obtain ⟨ji4,qo⟩:∃ j_:Int,(mn a1 65535)=j_:=⟨_,rfl⟩;replace H:((oV.f ahc 0 (mx 0 (ji4))).bind fun ahd=>(some (IntKind.u16.wrap (ahd))))=some r:=by first|(rw [qo] at H;exact H)|(simp only [qo] at H ⊢;exact H)
 (try rw [qo] at A3)
 (try (have aDZ:ji4<=65535:=by (rw [<- qo];unfold mn;(repeat' split) <;> omega)))
 (try (have aD0:ji4<=64:=by omega))
 have atx:(if 65535 < a1 then 65535 else a1)=ji4:=qo;obtain ⟨ji5,yw⟩:∃ j_:Int,(mx 0 (ji4))=j_:=⟨_,rfl⟩;replace H:((oV.f ahc 0 (ji5)).bind fun ahd=>(some (IntKind.u16.wrap (ahd))))=some r:=by first|(rw [yw] at H;exact H)|(simp only [yw] at H ⊢;exact H)
 (try rw [yw] at A3)
 have ays:(if 0 < (ji4) then (ji4) else 0)=ji5:=yw;replace H:=zO H;obtain ⟨ahd,A6,H⟩:=H;try dsimp only at H
 obtain rfl:=Option.some.inj H;go_enter Tryz.func74,Tryz.ntmps74;go_wp2_with (first|((with_reducible refine ay (f:=100) rfl ?_);refine aH (some 6) rfl rfl Tryz.func100 (by kernel_rfl) rfl #[.int .i64 a0,.int .i64 28] rfl zL ?_;(with_reducible refine (lF.calls a0 28 ahc _ A3.out).mono ?_);rintro e w' ⟨rfl,⟨nd,rfl⟩⟩;refine ⟨_,rfl,?_⟩)|((with_reducible refine ay (f:=99) rfl ?_);refine aH (some 10) rfl rfl Tryz.func99 (by kernel_rfl) rfl #[.int .i64 ahc,.int .i64 0,.int .i64 ji5] rfl (by (try simp only [List.map_toArray,List.map_cons,List.map_nil]);first|done|(simp only [yw];rfl)|(simp only [Int.tdiv_eq_ediv_of_nonneg aD1];rfl)|rfl|(simp only [List.length_drop,List.length_take];rfl)) ?_;(with_reducible refine (oV.calls ahc 0 ji5 ahd _ A6.out).mono ?_);rintro e w7 ⟨rfl,hb⟩;refine ⟨_,rfl,?_⟩;replace HB:=aj.mk (ak zB hb);(try clear hb)));go_ret;exact ⟨by first|rfl|(simp [bJ,bK] <;> rfl)|(simp only [<- qo,<- yw];first|rfl|(simp [bJ,bK] <;> rfl))|(simp [*,bJ,bK] <;> rfl),zB⟩
def dS.l0:Nat->List Int->Int->Int->Option (Int)
 | 0,_,_,_=>none
 | k+1,x0,x3,x4=>if x4 < (x0.length:Int) then (if 0<=x4 then (dS.l0 k x0 (mx x3 (rd x0 x4)) (wrap64 (x4+1))) else (none)) else (some x3)
def dS.f (k:Nat) (l0:List Int):Option (Int):=if (l0.length:Int) < 1 then (none) else (if 0 < (l0.length:Int) then (dS.l0 k l0 (rd l0 0) 1) else (none))
theorem dS.calls (k:Nat) (A0:Option Addr) (c0:Nat) (l0:List Int) (r:Int) (w:World) (hr0:Kd.C (Kd.int .u16) w A0 l0.length l0) (hc0:l0.length<=c0) (h:dS.f k l0=some r) :
  Calls Tryz.prog 98 #[.slice A0 l0.length c0] w fun e w'=>e = .returned (.int .u16 r)/\Below w.heap.size w w':=by
 have HR0:=aj.mk hr0;have HC0:=aj.mk hc0;clear hr0 hc0;have HB:=aj.mk (Below.refl w.heap.size w);have H:=h;clear h;unfold dS.f at H;by_cases c2:(l0.length:Int) < 1
 ·rw [if_pos c2] at H;exact absurd H (by simp)
 ·rw [if_neg c2] at H;have nK:=decide_eq_false c2;have ao0:decide (l0.length < 1)=false:=decide_eq_false (by omega);clear c2;by_cases c3:0 < (l0.length:Int)
  ·rw [if_pos c3] at H;have gI:=decide_eq_true c3;have xZ:decide (0 < l0.length)=true:=decide_eq_true (by omega);clear c3;have H':=aj.mk H;clear H;have asx:0<=(0:Int):=(by omega);have asy:0 < (l0.length:Int):=of_decide_eq_true (by first|(with_reducible assumption)|assumption);obtain ⟨ayt,azz,ant⟩:=Kd.iZ HR0.out 0 asx asy;cases azz;have aD2:(0 < l0.length)=True:=eq_true (by omega)
   (try rw [show ((0:Int)).toNat=0 from rfl] at ant)
   (try rw [Addr.add_zero'] at ant)
   replace asx:=eq_true asx;replace asy:=eq_true asy;go_enter Tryz.func98,Tryz.ntmps98;go_wp2;go_loopg [3,4] k (fun kq v3 v4 w'=>∃ (oU:Int) (aaT:Int),v3 = .int .u16 oU/\v4 = .int .i64 aaT/\aj (dS.l0 kq l0 oU aaT=some r)/\aj (kq<=k)/\aj (Below w.heap.size w w'))
   case atStart=>exact ⟨(rd l0 0),(1),zT,zT,H',⟨Nat.le_refl _⟩,⟨zB⟩⟩
   case round =>
    clear H';obtain ⟨oU,aaT,rfl,rfl,HA,HK1,HB⟩:=hrel;cases gk with
    | zero=>exact absurd HA.out (by simp [dS.l0])
    | succ k1 =>
     have H:=HA.out;clear HA;simp only [dS.l0] at H;by_cases c4:aaT < (l0.length:Int)
     ·rw [if_pos c4] at H;have fG:=decide_eq_true c4;clear c4;by_cases c5:0<=aaT
      ·rw [if_pos c5] at H;have iy:=decide_eq_true c5;clear c5;obtain ⟨ji6,uH⟩:∃ j_:Int,(mx oU (rd l0 aaT))=j_:=⟨_,rfl⟩;replace H:(dS.l0 k1 l0 ji6 (wrap64 (aaT+1)))=some r:=(by first|(rw [uH] at H;exact H)|(simp only [uH] at H ⊢;exact H));have as9:(if oU < (rd l0 aaT) then (rd l0 aaT) else oU)=ji6:=uH;have H':=aj.mk H;clear H;have asz:0<=(aaT:Int):=of_decide_eq_true (by first|(with_reducible assumption)|assumption);have asA:aaT < (l0.length:Int):=of_decide_eq_true (by first|(with_reducible assumption)|assumption);obtain ⟨ayu,azA,ajt⟩:=Kd.iZ HR0.out aaT asz asA;obtain rfl:ayt=ayu:=(by injection azA);replace ajt:=(HB.out.cell (World.block_lt_of_cell? w _ ajt)).trans ajt;replace asz:=eq_true asz;replace asA:=eq_true asA;go_wp2;go_roundg k1
       case measure=>have:=HK1.out;omega
       case rel=>exact ⟨(ji6),(wrap64 (aaT+1)),(by first|rfl|(simp;done)|(simp only [<- uH] <;> (first|rfl|simp))|(simp [*];done)),zT,H',⟨by have:=HK1.out;omega⟩,⟨zB⟩⟩
      ·rw [if_neg c5] at H;exact absurd H (by simp)
     ·rw [if_neg c4] at H;have fG:=decide_eq_false c4;clear c4;obtain rfl:=Option.some.inj H;go_wp2;go_ret;exact ⟨zS,zB⟩
  ·rw [if_neg c3] at H;exact absurd H (by simp)
end Go.Proofs.YtpondkggmcmpfaaGreatDoor.QA
