/- Joined by wip/tools/bundle.py out of: QAx12 QAx14 QAx15 QAx16 TCore S06P S06W QAx21 QAx45 QAx46 QAx47 QAx54. -/
import Derived.Test.YtpondkggmcmpfaaGreatDoorBDirectApplies2
set_option maxHeartbeats 8000000
set_option maxRecDepth 100000
namespace Go.Proofs.YtpondkggmcmpfaaGreatDoor.QA
open Go.Proofs.YtpondkggmcmpfaaGreatDoor.T
open Go.RowKit Go.Proofs.YtpondkggmcmpfaaGreatDoorW.PrintWords Go.Proofs.YtpondkggmcmpfaaGreatDoorW.PrintLast Go.Proofs.YtpondkggmcmpfaaGreatDoorW.PrintMore
attribute [local go_sem] dV dN dO fA fB
set_option linter.unusedVariables false
set_option linter.unusedSimpArgs false
def zV.f (k:Nat) (a0 a1:Int):Option (Int):=(gX.f a0).bind fun t173=>((gX.f a1).bind fun ahD=>((bits_Mul64.f t173 ahD).bind fun axB=>(if axB.1=0 then ((dR.f k axB.2 ((decide (a0 < 0)) != (decide (a1 < 0)))).bind fun av2=>(some av2)) else ((dR.f k 18446744073709551615 ((decide (a0 < 0)) != (decide (a1 < 0)))).bind fun av3=>(some av3)))))
theorem zV.calls (k:Nat) (a0 a1 r:Int) (w:World) (h:zV.f k a0 a1=some r) :
  Calls Tryz.prog 181 #[.int .i64 a0,.int .i64 a1] w fun e w'=>e = .returned (.int .i64 r)/\dA w w':=by
 have H:=h;clear h;unfold zV.f at H;replace H:=zO H;obtain ⟨t173,A3,H⟩:=H;try dsimp only at H
 replace H:=zO H;obtain ⟨ahD,A4,H⟩:=H;try dsimp only at H
 replace H:=zO H;obtain ⟨⟨t175,asl⟩,A5,H⟩:=H;try dsimp only at H
 by_cases c6:t175=0
 ·rw [if_pos c6] at H;have gI:(t175 == 0)=true:=beq_iff_eq.mpr c6;have vU:(t175 != 0)=false:=bne_eq_false_iff_eq.mpr c6;clear c6;replace H:=zO H;obtain ⟨av2,A7,H⟩:=H;try dsimp only at H
  obtain rfl:=Option.some.inj H;go_enter Tryz.func181,Tryz.ntmps181;go_wp2_with (first|((with_reducible refine ay (f:=163) rfl ?_);refine aH (some 9) rfl rfl Tryz.func163 (by kernel_rfl) rfl #[.int .i64 a0] rfl zL ?_;(with_reducible refine (gX.calls a0 t173 _ A3.out).mono ?_);rintro e w' ⟨rfl,⟨nd,rfl⟩⟩;refine ⟨_,rfl,?_⟩)|((with_reducible refine ay (f:=163) rfl ?_);refine aH (some 11) rfl rfl Tryz.func163 (by kernel_rfl) rfl #[.int .i64 a1] rfl zL ?_;(with_reducible refine (gX.calls a1 ahD _ A4.out).mono ?_);rintro e w' ⟨rfl,⟨nd,rfl⟩⟩;refine ⟨_,rfl,?_⟩)|((with_reducible refine ay (f:=178) rfl ?_);refine aH (some 12) rfl rfl Tryz.func178 (by kernel_rfl) rfl #[.int .u64 t173,.int .u64 ahD] rfl zL ?_;(with_reducible refine (bits_Mul64.calls t173 ahD t175 asl _ A5.out).mono ?_);rintro e w' ⟨rfl,⟨nd,rfl⟩⟩;refine ⟨_,rfl,?_⟩)|((with_reducible refine ay (f:=164) rfl ?_);refine aH (some 23) rfl rfl Tryz.func164 (by kernel_rfl) rfl #[.int .u64 asl,.bool ((decide (a0 < 0)) != (decide (a1 < 0)))] rfl zL ?_;(with_reducible refine (dR.calls k asl ((decide (a0 < 0)) != (decide (a1 < 0))) av2 _ A7.out).mono ?_);rintro e w' ⟨rfl,⟨nd,rfl⟩⟩;refine ⟨_,rfl,?_⟩));go_ret;exact ⟨zT,zW⟩
 ·rw [if_neg c6] at H;have gI:(t175 == 0)=false:=beq_eq_false_iff_ne.mpr c6;have vU:(t175 != 0)=true:=bne_iff_ne.mpr c6;replace H:=zO H;obtain ⟨av3,A8,H⟩:=H;try dsimp only at H
  obtain rfl:=Option.some.inj H;go_enter Tryz.func181,Tryz.ntmps181;go_wp2_with (first|((with_reducible refine ay (f:=163) rfl ?_);refine aH (some 9) rfl rfl Tryz.func163 (by kernel_rfl) rfl #[.int .i64 a0] rfl zL ?_;(with_reducible refine (gX.calls a0 t173 _ A3.out).mono ?_);rintro e w' ⟨rfl,⟨nd,rfl⟩⟩;refine ⟨_,rfl,?_⟩)|((with_reducible refine ay (f:=163) rfl ?_);refine aH (some 11) rfl rfl Tryz.func163 (by kernel_rfl) rfl #[.int .i64 a1] rfl zL ?_;(with_reducible refine (gX.calls a1 ahD _ A4.out).mono ?_);rintro e w' ⟨rfl,⟨nd,rfl⟩⟩;refine ⟨_,rfl,?_⟩)|((with_reducible refine ay (f:=178) rfl ?_);refine aH (some 12) rfl rfl Tryz.func178 (by kernel_rfl) rfl #[.int .u64 t173,.int .u64 ahD] rfl zL ?_;(with_reducible refine (bits_Mul64.calls t173 ahD t175 asl _ A5.out).mono ?_);rintro e w' ⟨rfl,⟨nd,rfl⟩⟩;refine ⟨_,rfl,?_⟩)|((with_reducible refine ay (f:=164) rfl ?_);refine aH (some 23) rfl rfl Tryz.func164 (by kernel_rfl) rfl #[.int .u64 18446744073709551615,.bool ((decide (a0 < 0)) != (decide (a1 < 0)))] rfl zL ?_;(with_reducible refine (dR.calls k 18446744073709551615 ((decide (a0 < 0)) != (decide (a1 < 0))) av3 _ A8.out).mono ?_);rintro e w' ⟨rfl,⟨nd,rfl⟩⟩;refine ⟨_,rfl,?_⟩));go_ret;exact ⟨zT,zW⟩
def xM.f (k:Nat) (a0:Int):Option (Int):=(zV.f k a0 (-1)).bind fun al0=>(some (mx a0 al0))
theorem xM.calls (k:Nat) (a0 r:Int) (w:World) (h:xM.f k a0=some r) :
  Calls Tryz.prog 161 #[.int .i64 a0] w fun e w'=>e = .returned (.int .i64 r)/\Below w.heap.size w w':=by
 have HB:=aj.mk (Below.refl w.heap.size w);have H:=h;clear h;unfold xM.f at H;replace H:=zO H;obtain ⟨al0,A2,H⟩:=H;try dsimp only at H
 obtain ⟨ji3,apl⟩:∃ j_:Int,(mx a0 al0)=j_:=⟨_,rfl⟩;replace H:(some ji3)=some r:=by first|(rw [apl] at H;exact H)|(simp only [apl] at H ⊢;exact H)
 (try rw [apl] at A2)
 have aIr:(if a0 < al0 then al0 else a0)=ji3:=apl;obtain rfl:=Option.some.inj H;go_enter Tryz.func161,Tryz.ntmps161;go_wp2_with (first|((with_reducible refine ay (f:=181) rfl ?_);refine aH (some 5) rfl rfl Tryz.func181 (by kernel_rfl) rfl #[.int .i64 a0,.int .i64 (-1)] rfl zL ?_;(with_reducible refine (zV.calls k a0 (-1) al0 _ A2.out).mono ?_);rintro e w' ⟨rfl,⟨nd,rfl⟩⟩;refine ⟨_,rfl,?_⟩));go_ret;exact ⟨by first|rfl|(simp [bJ,bK] <;> rfl)|(simp only [<- apl];first|rfl|(simp [bJ,bK] <;> rfl))|(simp [*,bJ,bK] <;> rfl),zB⟩
def nO.f (a0:Int):Option (Bool):=if a0>=1 then (some (decide (a0<=65536))) else (some false)
theorem nO.calls (a0:Int) (r:Bool) (w:World) (h:nO.f a0=some r) :
  Calls Tryz.prog 111 #[.int .i64 a0] w fun e w'=>e = .returned (.bool r)/\dA w w':=by
 have H:=h;clear h;unfold nO.f at H;by_cases c2:a0>=1
 ·rw [if_pos c2] at H;have oM:=decide_eq_true c2;clear c2;obtain rfl:=Option.some.inj H;go_enter Tryz.func111,Tryz.ntmps111;go_wp2;go_ret;exact ⟨zT,zW⟩
 ·rw [if_neg c2] at H;have oM:=decide_eq_false c2;clear c2;obtain rfl:=Option.some.inj H;go_enter Tryz.func111,Tryz.ntmps111;go_wp2;go_ret;exact ⟨zT,zW⟩
def lS.l0:Nat->Int->List Int->Int->Int->Option (Int)
 | 0,_,_,_,_=>none
 | k+1,x3,x6,x7,x8=>if x8 < x7 then (if 0<=x8 then (if x8 < (x6.length:Int) then ((xM.f k (rd x6 x8)).bind fun apm=>((mG.f k x3 apm).bind fun t182=>(lS.l0 k t182 x6 x7 (wrap64 (x8+1))))) else (none)) else (none)) else (some x3)
def lS.f (k:Nat) (l0:List Int):Option (Int):=lS.l0 k 0 l0 (l0.length:Int) 0
theorem lS.calls (k:Nat) (A0:Option Addr) (c0:Nat) (l0:List Int) (r:Int) (w:World) (hr0:Kd.C (Kd.int .i64) w A0 l0.length l0) (hc0:l0.length<=c0) (h:lS.f k l0=some r) :
  Calls Tryz.prog 138 #[.slice A0 l0.length c0] w fun e w'=>e = .returned (.int .i64 r)/\Below w.heap.size w w':=by
 have HR0:=aj.mk hr0;have HC0:=aj.mk hc0;clear hr0 hc0;have HB:=aj.mk (Below.refl w.heap.size w);have H:=h;clear h;unfold lS.f at H;have H':=aj.mk H;clear H;go_enter Tryz.func138,Tryz.ntmps138;go_wp2;go_loopg [3,8] k (fun kq v3 v8 w'=>∃ (qm:Int) (iT:Int),v3 = .int .i64 qm/\v8 = .int .i64 iT/\aj (lS.l0 kq qm l0 (l0.length:Int) iT=some r)/\aj (kq<=k)/\aj (Below w.heap.size w w'))
 case atStart=>exact ⟨(0),(0),zT,zT,H',⟨Nat.le_refl _⟩,⟨zB⟩⟩
 case round =>
  clear H';obtain ⟨qm,iT,rfl,rfl,HA,HK1,HB⟩:=hrel;cases gk with
  | zero=>exact absurd HA.out (by simp [lS.l0])
  | succ k1 =>
   have H:=HA.out;clear HA;simp only [lS.l0] at H;by_cases c2:iT < (l0.length:Int)
   ·rw [if_pos c2] at H;have oM:=decide_eq_true c2;clear c2;by_cases c3:0<=iT
    ·rw [if_pos c3] at H;have fU:=decide_eq_true c3;clear c3;by_cases c4:iT < (l0.length:Int)
     ·rw [if_pos c4] at H;have fH:=decide_eq_true c4;clear c4;replace H:=zO H;obtain ⟨apm,A5,H⟩:=H;try dsimp only at H
      replace H:=zO H;obtain ⟨t182,A6,H⟩:=H;try dsimp only at H
      have H':=aj.mk H;clear H;have av4:0<=(iT:Int):=of_decide_eq_true (by first|(with_reducible assumption)|assumption);have av5:iT < (l0.length:Int):=of_decide_eq_true (by first|(with_reducible assumption)|assumption);obtain ⟨aIs,aDS,al2⟩:=Kd.iZ HR0.out iT av4 av5;cases aDS;replace al2:=(HB.out.cell (World.block_lt_of_cell? w _ al2)).trans al2;replace av4:=eq_true av4;replace av5:=eq_true av5;go_wp2_with (first|((with_reducible refine ay (f:=161) rfl ?_);refine aH (some 14) rfl rfl Tryz.func161 (by kernel_rfl) rfl #[.int .i64 (rd l0 iT)] rfl zL ?_;(with_reducible refine (xM.calls k1 (rd l0 iT) apm _ A5.out).mono ?_);rintro e w7 ⟨rfl,hb⟩;refine ⟨_,rfl,?_⟩;replace HB:=aj.mk (ak zB hb);(try clear hb))|((with_reducible refine ay (f:=162) rfl ?_);refine aH (some 15) rfl rfl Tryz.func162 (by kernel_rfl) rfl #[.int .i64 qm,.int .i64 apm] rfl zL ?_;(with_reducible refine (mG.calls k1 qm apm t182 _ A6.out).mono ?_);rintro e w' ⟨rfl,⟨nd,rfl⟩⟩;refine ⟨_,rfl,?_⟩));go_roundg k1
      case measure=>have:=HK1.out;omega
      case rel=>exact ⟨(t182),(wrap64 (iT+1)),zT,zT,H',⟨by have:=HK1.out;omega⟩,⟨zB⟩⟩
     ·rw [if_neg c4] at H;exact absurd H (by simp)
    ·rw [if_neg c3] at H;exact absurd H (by simp)
   ·rw [if_neg c2] at H;have oM:=decide_eq_false c2;clear c2;obtain rfl:=Option.some.inj H;go_wp2;go_ret;exact ⟨zS,zB⟩
def ji.l0:Nat->Int->Int->Int->Int->Int->Option (Int)
 | 0,_,_,_,_,_=>none
 | k+1,x3,x4,x5,x6,x14=>if x14 < 16 then ((bG.f k x6 x4 (wrap64 ((wrap64 (x14+1))*1099511627776))).bind fun t183=>(if (Int.tmod x14 2)=0 then (ji.l0 k x3 x4 (wrap64 (x5 - t183)) t183 (wrap64 (x14+1))) else (ji.l0 k x3 x4 (wrap64 (x5+t183)) t183 (wrap64 (x14+1))))) else ((mD.f x5 x3).bind fun av6=>(some av6))
def ji.f (k:Nat) (a0:Int):Option (Int):=ji.l0 k (wrap64 ((mx 0 a0) / 762123384786)) ((mx 0 a0) % 762123384786) 1099511627776 1099511627776 0
theorem ji.jH:∀ k,(∀ y0 y1 y2 y3 y4,LeO (ji.l0 k y0 y1 y2 y3 y4) (ji.l0 (k+1) y0 y1 y2 y3 y4))
 | 0=>fun _ _ _ _ _ r h=>by simp [ji.l0] at h
 | k+1=>by
  have ih0:=ji.jH k
  ·intro y0 y1 y2 y3 y4;unfold ji.l0;repeat' (with_reducible first|exact ih0 _ _ _ _ _|exact bG.mono _ _ _ _|exact zM|refine LeO.ite ?_ ?_|refine LeO.bind ?_ (fun _ => ?_))
theorem ji.mono:∀ a0 k,LeO (ji.f k a0) (ji.f (k+1) a0):=by
 intro a0 k;have ih0:=ji.jH k;unfold ji.f;repeat' (with_reducible first|exact ih0 _ _ _ _ _|exact bG.mono _ _ _ _|exact zM|refine LeO.ite ?_ ?_|refine LeO.bind ?_ (fun _ => ?_))
theorem ji.calls (k:Nat) (a0 r:Int) (w:World) (h:ji.f k a0=some r) :
  Calls Tryz.prog 167 #[.int .i64 a0] w fun e w'=>e = .returned (.int .i64 r)/\Below w.heap.size w w':=by
 have HB:=aj.mk (Below.refl w.heap.size w);have H:=h;clear h;unfold ji.f at H;obtain ⟨ji2,acj⟩:∃ j_:Int,(mx 0 a0)=j_:=⟨_,rfl⟩;replace H:(ji.l0 k (wrap64 ((ji2) / 762123384786)) ((ji2) % 762123384786) 1099511627776 1099511627776 0)=some r:=by first|(rw [acj] at H;exact H)|(simp only [acj] at H ⊢;exact H)
 (try (have asn:0<=ji2:=by (rw [<- acj];unfold mx;(repeat' split) <;> omega)))
 (try (have aIt:0<=ji2:=by omega))
 have aCl:(if 0 < a0 then a0 else 0)=ji2:=acj;have H':=aj.mk H;clear H;go_enter Tryz.func167,Tryz.ntmps167;go_wp2;go_loopg [5,6,14] k (fun kq v5 v6 v14 w'=>∃ (ajl:Int) (rQ:Int) (yg:Int),v5 = .int .i64 ajl/\v6 = .int .i64 rQ/\v14 = .int .i64 yg/\aj (ji.l0 kq (wrap64 ((ji2) / 762123384786)) ((ji2) % 762123384786) ajl rQ yg=some r)/\aj (kq<=k)/\aj (Below w.heap.size w w'))
 case atStart=>exact ⟨(1099511627776),(1099511627776),(0),zT,zT,zT,H',⟨Nat.le_refl _⟩,⟨zB⟩⟩
 case round =>
  clear H';obtain ⟨ajl,rQ,yg,rfl,rfl,rfl,HA,HK1,HB⟩:=hrel;cases gk with
  | zero=>exact absurd HA.out (by simp [ji.l0])
  | succ k1 =>
   have H:=HA.out;clear HA;simp only [ji.l0] at H;by_cases c3:yg < 16
   ·rw [if_pos c3] at H;have fU:=decide_eq_true c3;clear c3;replace H:=zO H;obtain ⟨t183,A4,H⟩:=H;try dsimp only at H
    by_cases c5:(Int.tmod yg 2)=0
    ·rw [if_pos c5] at H;have gJ:((Int.tmod yg 2) == 0)=true:=beq_iff_eq.mpr c5;have ab8:((Int.tmod yg 2) != 0)=false:=bne_eq_false_iff_eq.mpr c5;clear c5;have H':=aj.mk H;clear H;go_wp2_with (first|((with_reducible refine ay (f:=130) rfl ?_);refine aH (some 22) rfl rfl Tryz.func130 (by kernel_rfl) rfl #[.int .i64 rQ,.int .i64 ((ji2) % 762123384786),.int .i64 (wrap64 ((wrap64 (yg+1))*1099511627776))] rfl (by (try simp only [List.map_toArray,List.map_cons,List.map_nil]);first|done|(simp only [acj];rfl)|(simp only [Int.tdiv_eq_ediv_of_nonneg asn];rfl)|rfl|(simp only [List.length_drop,List.length_take];rfl)) ?_;(with_reducible refine (bG.calls k1 rQ ((ji2) % 762123384786) (wrap64 ((wrap64 (yg+1))*1099511627776)) t183 _ A4.out).mono ?_);rintro e w' ⟨rfl,⟨nd,rfl⟩⟩;refine ⟨_,rfl,?_⟩));go_roundg k1
     case measure=>have:=HK1.out;omega
     case rel=>exact ⟨(wrap64 (ajl - t183)),(t183),(wrap64 (yg+1)),zT,zT,zT,H',⟨by have:=HK1.out;omega⟩,⟨zB⟩⟩
    ·rw [if_neg c5] at H;have gJ:((Int.tmod yg 2) == 0)=false:=beq_eq_false_iff_ne.mpr c5;have ab8:((Int.tmod yg 2) != 0)=true:=bne_iff_ne.mpr c5;have H':=aj.mk H;clear H;go_wp2_with (first|((with_reducible refine ay (f:=130) rfl ?_);refine aH (some 22) rfl rfl Tryz.func130 (by kernel_rfl) rfl #[.int .i64 rQ,.int .i64 ((ji2) % 762123384786),.int .i64 (wrap64 ((wrap64 (yg+1))*1099511627776))] rfl (by (try simp only [List.map_toArray,List.map_cons,List.map_nil]);first|done|(simp only [acj];rfl)|(simp only [Int.tdiv_eq_ediv_of_nonneg asn];rfl)|rfl|(simp only [List.length_drop,List.length_take];rfl)) ?_;(with_reducible refine (bG.calls k1 rQ ((ji2) % 762123384786) (wrap64 ((wrap64 (yg+1))*1099511627776)) t183 _ A4.out).mono ?_);rintro e w' ⟨rfl,⟨nd,rfl⟩⟩;refine ⟨_,rfl,?_⟩));go_roundg k1
     case measure=>have:=HK1.out;omega
     case rel=>exact ⟨(wrap64 (ajl+t183)),(t183),(wrap64 (yg+1)),zT,zT,zT,H',⟨by have:=HK1.out;omega⟩,⟨zB⟩⟩
   ·rw [if_neg c3] at H;have fU:=decide_eq_false c3;clear c3;replace H:=zO H;obtain ⟨av6,A6,H⟩:=H;try dsimp only at H
    obtain rfl:=Option.some.inj H;go_wp2_with (first|((with_reducible refine ay (f:=100) rfl ?_);refine aH (some 35) rfl rfl Tryz.func100 (by kernel_rfl) rfl #[.int .i64 ajl,.int .i64 (wrap64 ((ji2) / 762123384786))] rfl (by (try simp only [List.map_toArray,List.map_cons,List.map_nil]);first|done|(simp only [acj];rfl)|(simp only [Int.tdiv_eq_ediv_of_nonneg asn];rfl)|rfl|(simp only [List.length_drop,List.length_take];rfl)) ?_;(with_reducible refine (mD.calls ajl (wrap64 ((ji2) / 762123384786)) av6 _ A6.out).mono ?_);rintro e w' ⟨rfl,⟨nd,rfl⟩⟩;refine ⟨_,rfl,?_⟩));go_ret;exact ⟨by first|rfl|(simp [bJ,bK] <;> rfl)|(simp only [<- acj];first|rfl|(simp [bJ,bK] <;> rfl))|(simp [*,bJ,bK] <;> rfl),zB⟩
def oV.f (k:Nat) (a0 a1:Int):Option (Int):=if a1 < 1 then (some 9223372036854775807) else (if a1 > 4194304 then (some 9223372036854775807) else (if a0 < (-16384) then (some 9223372036854775807) else (if a0 > 16384 then (some 9223372036854775807) else ((bG.f k (wrap64 ((wrap64 (a0*a0))*2147483648)) 1099511627776 (wrap64 (a1*a1))).bind fun av7=>(some av7)))))
theorem oV.mono:∀ a0 a1 k,LeO (oV.f k a0 a1) (oV.f (k+1) a0 a1):=by
 intro a0 a1 k;unfold oV.f;repeat' (with_reducible first|exact bG.mono _ _ _ _|exact zM|refine LeO.ite ?_ ?_|refine LeO.bind ?_ (fun _ => ?_))
theorem oV.calls (k:Nat) (a0 a1 r:Int) (w:World) (h:oV.f k a0 a1=some r) :
  Calls Tryz.prog 168 #[.int .i64 a0,.int .i64 a1] w fun e w'=>e = .returned (.int .i64 r)/\dA w w':=by
 have H:=h;clear h;unfold oV.f at H;by_cases c3:a1 < 1
 ·rw [if_pos c3] at H;have fU:=decide_eq_true c3;clear c3;obtain rfl:=Option.some.inj H;go_enter Tryz.func168,Tryz.ntmps168;go_wp2;go_ret;exact ⟨zT,zW⟩
 ·rw [if_neg c3] at H;have fU:=decide_eq_false c3;clear c3;by_cases c4:a1 > 4194304
  ·rw [if_pos c4] at H;have fH:=decide_eq_true c4;clear c4;obtain rfl:=Option.some.inj H;go_enter Tryz.func168,Tryz.ntmps168;go_wp2;go_ret;exact ⟨zT,zW⟩
  ·rw [if_neg c4] at H;have fH:=decide_eq_false c4;clear c4;by_cases c5:a0 < (-16384)
   ·rw [if_pos c5] at H;have gJ:=decide_eq_true c5;clear c5;obtain rfl:=Option.some.inj H;go_enter Tryz.func168,Tryz.ntmps168;go_wp2;go_ret;exact ⟨zT,zW⟩
   ·rw [if_neg c5] at H;have gJ:=decide_eq_false c5;clear c5;by_cases c6:a0 > 16384
    ·rw [if_pos c6] at H;have gI:=decide_eq_true c6;clear c6;obtain rfl:=Option.some.inj H;go_enter Tryz.func168,Tryz.ntmps168;go_wp2;go_ret;exact ⟨zT,zW⟩
    ·rw [if_neg c6] at H;have gI:=decide_eq_false c6;clear c6;replace H:=zO H;obtain ⟨av7,A7,H⟩:=H;try dsimp only at H
     obtain rfl:=Option.some.inj H;go_enter Tryz.func168,Tryz.ntmps168;go_wp2_with (first|((with_reducible refine ay (f:=130) rfl ?_);refine aH (some 26) rfl rfl Tryz.func130 (by kernel_rfl) rfl #[.int .i64 (wrap64 ((wrap64 (a0*a0))*2147483648)),.int .i64 1099511627776,.int .i64 (wrap64 (a1*a1))] rfl zL ?_;(with_reducible refine (bG.calls k (wrap64 ((wrap64 (a0*a0))*2147483648)) 1099511627776 (wrap64 (a1*a1)) av7 _ A7.out).mono ?_);rintro e w' ⟨rfl,⟨nd,rfl⟩⟩;refine ⟨_,rfl,?_⟩));go_ret;exact ⟨zT,zW⟩
def mP.f (k:Nat) (a0 a1:Int):Option (Int):=(oV.f k a0 a1).bind fun apn=>((ji.f k apn).bind fun apo=>((mD.f apo 10).bind fun av8=>(some av8)))
theorem mP.mono:∀ a0 a1 k,LeO (mP.f k a0 a1) (mP.f (k+1) a0 a1):=by
 intro a0 a1 k;unfold mP.f;repeat' (with_reducible first|exact ji.mono _ _|exact oV.mono _ _ _|exact zM|refine LeO.ite ?_ ?_|refine LeO.bind ?_ (fun _ => ?_))
theorem mP.calls (k:Nat) (a0 a1 r:Int) (w:World) (h:mP.f k a0 a1=some r) :
  Calls Tryz.prog 137 #[.int .i64 a0,.int .i64 a1] w fun e w'=>e = .returned (.int .i64 r)/\Below w.heap.size w w':=by
 have HB:=aj.mk (Below.refl w.heap.size w);have H:=h;clear h;unfold mP.f at H;replace H:=zO H;obtain ⟨apn,A3,H⟩:=H;try dsimp only at H
 replace H:=zO H;obtain ⟨apo,A4,H⟩:=H;try dsimp only at H
 replace H:=zO H;obtain ⟨av8,A5,H⟩:=H;try dsimp only at H
 obtain rfl:=Option.some.inj H;go_enter Tryz.func137,Tryz.ntmps137;go_wp2_with (first|((with_reducible refine ay (f:=168) rfl ?_);refine aH (some 7) rfl rfl Tryz.func168 (by kernel_rfl) rfl #[.int .i64 a0,.int .i64 a1] rfl zL ?_;(with_reducible refine (oV.calls k a0 a1 apn _ A3.out).mono ?_);rintro e w' ⟨rfl,⟨nd,rfl⟩⟩;refine ⟨_,rfl,?_⟩)|((with_reducible refine ay (f:=167) rfl ?_);refine aH (some 8) rfl rfl Tryz.func167 (by kernel_rfl) rfl #[.int .i64 apn] rfl zL ?_;(with_reducible refine (ji.calls k apn apo _ A4.out).mono ?_);rintro e w6 ⟨rfl,hb⟩;refine ⟨_,rfl,?_⟩;replace HB:=aj.mk (ak zB hb);(try clear hb))|((with_reducible refine ay (f:=100) rfl ?_);refine aH (some 9) rfl rfl Tryz.func100 (by kernel_rfl) rfl #[.int .i64 apo,.int .i64 10] rfl zL ?_;(with_reducible refine (mD.calls apo 10 av8 _ A5.out).mono ?_);rintro e w' ⟨rfl,⟨nd,rfl⟩⟩;refine ⟨_,rfl,?_⟩));go_ret;exact ⟨zS,zB⟩
mutual
def bM.j0:Nat->Int->Bool->Option (List Int × Int)
 | 0,_,_=>none
 | k+1,x0,x12=>if x12=true then (some (([]:List Int),7)) else (bM.l0 k x0 ((wrap64 ((wrap64 ((wrap64 (3*x0))+65536)) - 1)) / 65536) ([]:List Int) (wrap64 (-((wrap64 ((wrap64 ((wrap64 (3*x0))+65536)) - 1)) / 65536))))
def bM.l0:Nat->Int->Int->List Int->Int->Option (List Int × Int)
 | 0,_,_,_,_=>none
 | k+1,x0,x4,x5,x6=>if x6<=x4 then ((mP.f k x6 x0).bind fun al3=>(if x5.length < 17592186044416 then (bM.l0 k x0 x4 (x5 ++ [al3]) (wrap64 (x6+1))) else (none))) else (some (x5,0))
end
def bM.f (k:Nat) (a0:Int):Option (List Int × Int):=if a0 < 1 then (bM.j0 k a0 true) else (bM.j0 k a0 (decide (a0 > 4194304)))
theorem bM.jH:∀ k,(∀ y0 y1,LeO (bM.j0 k y0 y1) (bM.j0 (k+1) y0 y1))/\(∀ y0 y1 y2 y3,LeO (bM.l0 k y0 y1 y2 y3) (bM.l0 (k+1) y0 y1 y2 y3))
 | 0=>⟨fun _ _ r h=>by simp [bM.j0] at h,fun _ _ _ _ r h=>by simp [bM.l0] at h⟩
 | k+1=>by
  obtain ⟨ih0,ih1⟩:=bM.jH k;refine ⟨?_,?_⟩
  ·intro y0 y1;unfold bM.j0;repeat' (with_reducible first|exact ih0 _ _|exact ih1 _ _ _ _|exact mP.mono _ _ _|exact zM|refine LeO.ite ?_ ?_|refine LeO.bind ?_ (fun _ => ?_))
  ·intro y0 y1 y2 y3;unfold bM.l0;repeat' (with_reducible first|exact ih0 _ _|exact ih1 _ _ _ _|exact mP.mono _ _ _|exact zM|refine LeO.ite ?_ ?_|refine LeO.bind ?_ (fun _ => ?_))
theorem bM.mono:∀ a0 k,LeO (bM.f k a0) (bM.f (k+1) a0):=by
 intro a0 k;obtain ⟨ih0,ih1⟩:=bM.jH k;unfold bM.f;repeat' (with_reducible first|exact ih0 _ _|exact ih1 _ _ _ _|exact mP.mono _ _ _|exact zM|refine LeO.ite ?_ ?_|refine LeO.bind ?_ (fun _ => ?_))
theorem bM.calls (k:Nat) (a0:Int) (r1:List Int) (r2:Int) (w:World) (h:bM.f k a0=some (r1,r2)) :
  Calls Tryz.prog 110 #[.int .i64 a0] w fun e w'=>∃ v0_:Value,e = .returned (.tuple #[v0_,.int .i64 r2])/\Kd.R (Kd.int .i64) 2 w' w.heap.size (fun _=>True) v0_ r1/\Below w.heap.size w w':=by
 have HB:=aj.mk (Below.refl w.heap.size w);have H:=h;clear h;unfold bM.f at H;have HC2:=aj.mk H;clear H;go_enter Tryz.func110,Tryz.ntmps110;go_upto_region 1 with (fail);go_cut [12] (fun v12 wc=>∃ (kq:Nat) (ade:Bool),v12 = .bool ade/\aj (bM.j0 kq a0 ade=some (r1,r2))/\aj (kq<=k)/\aj (Below w.heap.size w wc))
 case first =>
  have H:=HC2.out;clear HC2;by_cases c3:a0 < 1
  ·rw [if_pos c3] at H;have fU:=decide_eq_true c3;clear c3
   (first|rw [fU]|(simp only [bP,bU];rw [fU])|skip)
   have H':=aj.mk H;clear H;go_wp2;go_meet
   case rel=>exact ⟨_,(true),zT,H',⟨by first|omega|exact Nat.le_refl _⟩,⟨zB⟩⟩
  ·rw [if_neg c3] at H;have fU:=decide_eq_false c3;clear c3
   (first|rw [fU]|(simp only [bP,bU];rw [fU])|skip)
   have H':=aj.mk H;clear H;go_wp2;go_meet
   case rel=>exact ⟨_,(decide (a0 > 4194304)),zT,H',⟨by first|omega|exact Nat.le_refl _⟩,⟨zB⟩⟩
 case rest =>
  clear HC2;obtain ⟨kq,ade,rfl,HA,HJ1,HB⟩:=hcut;cases kq with
  | zero=>exact absurd HA.out (by simp [bM.j0])
  | succ kj1 =>
   have H:=HA.out;clear HA;simp only [bM.j0] at H;by_cases c4:ade=true
   ·subst c4;rw [if_pos rfl] at H;(try dsimp only at H);simp only [Option.some.injEq,Prod.mk.injEq] at H;obtain ⟨rfl,rfl⟩:=H;go_wp2;go_ret2;exact ⟨_,zS,by first|exact Kd.kJ _ _ _ _ _|exact Kd.qO _ _ _ _ _|exact Kd.oU _ _ _ _ _|exact Kd.qP _ _ _ _ _|exact Kd.qp _ _ _ _ _,zB⟩
   ·replace c4:=Bool.eq_false_iff.mpr c4;subst c4;rw [if_neg (show ¬ (false=true) by decide)] at H;(try dsimp only at H);have H':=aj.mk H;clear H;go_wp2;go_loopg [5,6] kj1 (fun kq v5 v6 w'=>∃ (ou:List Int) (aau:Int),v6 = .int .i64 aau/\aj (bM.l0 kq a0 ((wrap64 ((wrap64 ((wrap64 (3*a0))+65536)) - 1)) / 65536) ou aau=some (r1,r2))/\aj (kq<=kj1)/\aj (Kd.R (Kd.int .i64) 2 w' w.heap.size (fun _=>True) v5 ou)/\aj (Below w.heap.size w w'))
    case atStart=>exact ⟨(([]:List Int)),(wrap64 (-((wrap64 ((wrap64 ((wrap64 (3*a0))+65536)) - 1)) / 65536))),zT,H',⟨Nat.le_refl _⟩,⟨by first|exact Kd.kJ _ _ _ _ _|exact Kd.qO _ _ _ _ _|exact Kd.oU _ _ _ _ _|exact Kd.qP _ _ _ _ _|exact Kd.qp _ _ _ _ _⟩,⟨zB⟩⟩
    case round =>
     clear H';obtain ⟨ou,aau,rfl,HA,HK2,zF,HB⟩:=hrel;cases gk with
     | zero=>exact absurd HA.out (by simp [bM.l0])
     | succ k2 =>
      have H:=HA.out;clear HA;simp only [bM.l0] at H;by_cases c5:aau<=((wrap64 ((wrap64 ((wrap64 (3*a0))+65536)) - 1)) / 65536)
      ·rw [if_pos c5] at H;have gJ:=decide_eq_true c5;clear c5;replace H:=zO H;obtain ⟨al3,A6,H⟩:=H;try dsimp only at H
       by_cases c7:ou.length < 17592186044416
       ·rw [if_pos c7] at H;have aDT:=aj.mk c7;clear c7;obtain ⟨az0,akM⟩:∃ y_:List Int,y_=(ou ++ [al3]):=⟨_,rfl⟩;replace H:(bM.l0 k2 a0 ((wrap64 ((wrap64 ((wrap64 (3*a0))+65536)) - 1)) / 65536) az0 (wrap64 (aau+1)))=some (r1,r2):=(by first|(rw [akM];with_reducible exact H)|(have H2_:=(Option.bind_some _ _).symm.trans H;rw [akM];with_reducible exact H2_)|(have H2_:=(Option.bind_some _ _).symm.trans H;with_reducible exact H2_)|with_reducible exact H|(rw [akM];exact H)|exact H);have aCC:=aj.mk akM;clear akM;have H':=aj.mk H;clear H;go_wp2_with (first|((with_reducible refine ay (f:=137) rfl ?_);refine aH (some 28) rfl rfl Tryz.func137 (by kernel_rfl) rfl #[.int .i64 aau,.int .i64 a0] rfl zL ?_;(with_reducible refine (mP.calls k2 aau a0 al3 _ A6.out).mono ?_);rintro e w8 ⟨rfl,hb⟩;refine ⟨_,rfl,?_⟩;obtain ⟨zF,HB⟩:=zA2 (Kd.jF (by (with_reducible repeat (first|apply Kd.aN|apply Kd.aT|apply Kd.aV));exact zF.out) hb) (ak zB hb);(try clear hb))|((with_reducible refine kR (b := .append) (xs := #[.tmp 25,.tmp 29]) rfl ?_);at_builtin;refine Kd.lU (Kd.int .i64) (w0:=w) w.heap.size rfl (.tmp 25) (.tmp 29) 44 2 (.int .i64 0) 8 rfl Tryz.underlying44 yM rfl (by decide) (by omega) u5 ou al3 [.int .i64 al3] (fun _=>True) (fun _=>False) rfl rfl ?aP (fun _ hk=>hk.elim) ?aF ?aO ?aB ?aS ?aL ?_;(case aP=>exact rfl);(case aB=>exact zB);(case aF=>exact (fun _ _=>trivial));(case aO=>exact (by (with_reducible repeat (first|apply Kd.aN|apply Kd.aT|apply Kd.aV));exact zF.out));(case aS=>exact (bW zB));(case aL=>have:=aDT.out;omega);intro aJe w9 ho hb hg hat;rw [<- aCC.out] at ho;obtain ⟨HB,aCD⟩:=zA2 hb ho;clear ho hb hg hat));go_roundg k2
        case measure=>have:=HJ1.out;have:=HK2.out;omega
        case rel=>exact ⟨(az0),(wrap64 (aau+1)),zT,H',⟨by have:=HJ1.out;have:=HK2.out;omega⟩,⟨by (with_reducible repeat (first|apply Kd.aN|apply Kd.aT|apply Kd.aV));exact aCD.out⟩,⟨zB⟩⟩
       ·rw [if_neg c7] at H;exact absurd H (by simp)
      ·rw [if_neg c5] at H;have gJ:=decide_eq_false c5;clear c5;simp only [Option.some.injEq,Prod.mk.injEq] at H;obtain ⟨rfl,rfl⟩:=H;go_wp2;go_ret2;exact ⟨_,zS,by (with_reducible repeat (first|apply Kd.aN|apply Kd.aT|apply Kd.aV));exact zF.out,zB⟩
mutual
def gU.j0:Nat->List Int->Int->Bool->Option (List Int × Int)
 | 0,_,_,_=>none
 | k+1,x0,x4,x26=>if x26=true then (some (([]:List Int),7)) else (gU.l0 k x4 ([]:List Int) x0 (x0.length:Int) 0)
def gU.l0:Nat->Int->List Int->List Int->Int->Int->Option (List Int × Int)
 | 0,_,_,_,_,_=>none
 | k+1,x4,x5,x27,x28,x29=>if x29 < x28 then (if 0<=x29 then (if x29 < (x27.length:Int) then ((bG.f k (rd x27 x29) 1073741824 x4).bind fun al4=>(if x5.length < 17592186044416 then (gU.l0 k x4 (x5 ++ [al4]) x27 x28 (wrap64 (x29+1))) else (none))) else (none)) else (none)) else (some (x5,0))
end
def gU.f (k:Nat) (l0:List Int):Option (List Int × Int):=(lS.f k l0).bind fun t193=>(if ((l0.length:Int) % 2)=0 then (gU.j0 k l0 t193 true) else (if (l0.length:Int) > 1024 then (gU.j0 k l0 t193 true) else (if t193 < 1 then (gU.j0 k l0 t193 true) else (gU.j0 k l0 t193 (decide (t193 > 1048576))))))
theorem gU.calls (k:Nat) (A0:Option Addr) (c0:Nat) (l0 r1:List Int) (r2:Int) (w:World) (hr0:Kd.C (Kd.int .i64) w A0 l0.length l0) (hc0:l0.length<=c0) (h:gU.f k l0=some (r1,r2)) :
  Calls Tryz.prog 127 #[.slice A0 l0.length c0] w fun e w'=>∃ v0_:Value,e = .returned (.tuple #[v0_,.int .i64 r2])/\Kd.R (Kd.int .i64) 2 w' w.heap.size (fun _=>True) v0_ r1/\Below w.heap.size w w':=by
 have HR0:=aj.mk hr0;have HC0:=aj.mk hc0;clear hr0 hc0;have HB:=aj.mk (Below.refl w.heap.size w);have H:=h;clear h;unfold gU.f at H;replace H:=zO H;obtain ⟨t193,A2,H⟩:=H;try dsimp only at H
 have HC3:=aj.mk H;clear H;go_enter Tryz.func127,Tryz.ntmps127;go_upto_region 2 with (first|((with_reducible refine ay (f:=138) rfl ?_);refine aH (some 9) rfl rfl Tryz.func138 (by kernel_rfl) rfl #[.slice A0 l0.length c0] rfl zL ?_;(with_reducible refine (lS.calls k _ _ l0 t193 _ ?iD ?iE A2.out).mono ?_);(case iD=>repeat (first|exact HR0.out|(with_reducible refine Kd.iU ?_ _)|(with_reducible refine Kd.jh ?_ _)|(with_reducible refine Kd.jI ?_)));(case iE=>exact HC0.out);rintro e w4 ⟨rfl,hb⟩;refine ⟨_,rfl,?_⟩;replace HB:=aj.mk (ak zB hb);(try clear hb)))
 (try simp only [Act.put,List.setIfInBounds_toArray,List.set_cons_zero,List.set_cons_succ])
 go_cut [26] (fun v26 wc=>∃ (kq:Nat) (adf:Bool),v26 = .bool adf/\aj (gU.j0 kq l0 t193 adf=some (r1,r2))/\aj (kq<=k)/\aj (Below w.heap.size w wc))
 case first =>
  have H:=HC3.out;clear HC3;by_cases c5:((l0.length:Int) % 2)=0
  ·rw [if_pos c5] at H;have gJ:(((l0.length:Int) % 2) == 0)=true:=beq_iff_eq.mpr c5;have ab8:(((l0.length:Int) % 2) != 0)=false:=bne_eq_false_iff_eq.mpr c5;clear c5
   (first|rw [gJ]|(simp only [bP,bU];rw [gJ])|skip)
   have H':=aj.mk H;clear H;go_wp2;go_meet
   case rel=>exact ⟨_,(true),zT,H',⟨by first|omega|exact Nat.le_refl _⟩,⟨zB⟩⟩
  ·rw [if_neg c5] at H;have gJ:(((l0.length:Int) % 2) == 0)=false:=beq_eq_false_iff_ne.mpr c5;have ab8:(((l0.length:Int) % 2) != 0)=true:=bne_iff_ne.mpr c5
   (first|rw [gJ]|(simp only [bP,bU];rw [gJ])|skip)
   by_cases c6:(l0.length:Int) > 1024
   ·rw [if_pos c6] at H;have gI:=decide_eq_true c6;have vU:decide (1024 < l0.length)=true:=decide_eq_true (by omega);clear c6;have H':=aj.mk H;clear H;go_wp2;go_meet
    case rel=>exact ⟨_,(true),zT,H',⟨by first|omega|exact Nat.le_refl _⟩,⟨zB⟩⟩
   ·rw [if_neg c6] at H;have gI:=decide_eq_false c6;have vU:decide (1024 < l0.length)=false:=decide_eq_false (by omega);clear c6;by_cases c7:t193 < 1
    ·rw [if_pos c7] at H;have jw:=decide_eq_true c7;clear c7;have H':=aj.mk H;clear H;go_wp2;go_meet
     case rel=>exact ⟨_,(true),zT,H',⟨by first|omega|exact Nat.le_refl _⟩,⟨zB⟩⟩
    ·rw [if_neg c7] at H;have jw:=decide_eq_false c7;clear c7;have H':=aj.mk H;clear H;go_wp2;go_meet
     case rel=>exact ⟨_,(decide (t193 > 1048576)),zT,H',⟨by first|omega|exact Nat.le_refl _⟩,⟨zB⟩⟩
 case rest =>
  clear HC3;obtain ⟨kq,adf,rfl,HA,HJ2,HB⟩:=hcut;cases kq with
  | zero=>exact absurd HA.out (by simp [gU.j0])
  | succ kj2 =>
   have H:=HA.out;clear HA;simp only [gU.j0] at H;by_cases c8:adf=true
   ·subst c8;rw [if_pos rfl] at H;(try dsimp only at H);simp only [Option.some.injEq,Prod.mk.injEq] at H;obtain ⟨rfl,rfl⟩:=H;go_wp2;go_ret2;exact ⟨_,zS,by first|exact Kd.kJ _ _ _ _ _|exact Kd.qO _ _ _ _ _|exact Kd.oU _ _ _ _ _|exact Kd.qP _ _ _ _ _|exact Kd.qp _ _ _ _ _,zB⟩
   ·replace c8:=Bool.eq_false_iff.mpr c8;subst c8;rw [if_neg (show ¬ (false=true) by decide)] at H;(try dsimp only at H);have H':=aj.mk H;clear H;go_wp2;go_loopg [5,29] kj2 (fun kq v5 v29 w'=>∃ (ou:List Int) (jS:Int),v29 = .int .i64 jS/\aj (gU.l0 kq t193 ou l0 (l0.length:Int) jS=some (r1,r2))/\aj (kq<=kj2)/\aj (Kd.R (Kd.int .i64) 2 w' w.heap.size (fun _=>True) v5 ou)/\aj (Below w.heap.size w w'))
    case atStart=>exact ⟨(([]:List Int)),(0),zT,H',⟨Nat.le_refl _⟩,⟨by first|exact Kd.kJ _ _ _ _ _|exact Kd.qO _ _ _ _ _|exact Kd.oU _ _ _ _ _|exact Kd.qP _ _ _ _ _|exact Kd.qp _ _ _ _ _⟩,⟨zB⟩⟩
    case round =>
     clear H';obtain ⟨ou,jS,rfl,HA,HK2,zF,HB⟩:=hrel;cases gk with
     | zero=>exact absurd HA.out (by simp [gU.l0])
     | succ k2 =>
      have H:=HA.out;clear HA;simp only [gU.l0] at H;by_cases c9:jS < (l0.length:Int)
      ·rw [if_pos c9] at H;have o8:=decide_eq_true c9;clear c9;by_cases c10:0<=jS
       ·rw [if_pos c10] at H;have l9:=decide_eq_true c10;clear c10;by_cases c11:jS < (l0.length:Int)
        ·rw [if_pos c11] at H;have jy:=decide_eq_true c11;clear c11;replace H:=zO H;obtain ⟨al4,A12,H⟩:=H;try dsimp only at H
         by_cases c13:ou.length < 17592186044416
         ·rw [if_pos c13] at H;have aCE:=aj.mk c13;clear c13;obtain ⟨az1,akN⟩:∃ y_:List Int,y_=(ou ++ [al4]):=⟨_,rfl⟩;replace H:(gU.l0 k2 t193 az1 l0 (l0.length:Int) (wrap64 (jS+1)))=some (r1,r2):=(by first|(rw [akN];with_reducible exact H)|(have H2_:=(Option.bind_some _ _).symm.trans H;rw [akN];with_reducible exact H2_)|(have H2_:=(Option.bind_some _ _).symm.trans H;with_reducible exact H2_)|with_reducible exact H|(rw [akN];exact H)|exact H);have aCF:=aj.mk akN;clear akN;have H':=aj.mk H;clear H;have av9:0<=(jS:Int):=of_decide_eq_true (by first|(with_reducible assumption)|assumption);have awc:jS < (l0.length:Int):=of_decide_eq_true (by first|(with_reducible assumption)|assumption);obtain ⟨aIu,aDU,al5⟩:=Kd.iZ HR0.out jS av9 awc;cases aDU;replace al5:=(HB.out.cell (World.block_lt_of_cell? w _ al5)).trans al5;replace av9:=eq_true av9;replace awc:=eq_true awc;go_wp2_with (first|((with_reducible refine ay (f:=130) rfl ?_);refine aH (some 36) rfl rfl Tryz.func130 (by kernel_rfl) rfl #[.int .i64 (rd l0 jS),.int .i64 1073741824,.int .i64 t193] rfl zL ?_;(with_reducible refine (bG.calls k2 (rd l0 jS) 1073741824 t193 al4 _ A12.out).mono ?_);rintro e w' ⟨rfl,⟨nd,rfl⟩⟩;refine ⟨_,rfl,?_⟩)|((with_reducible refine kR (b := .append) (xs := #[.tmp 33,.tmp 37]) rfl ?_);(try (refine lV (by rfl) ?_;dsimp only));at_builtin;refine Kd.lU (Kd.int .i64) (w0:=w) w.heap.size rfl (.tmp 33) (.tmp 37) 44 2 (.int .i64 0) 8 rfl Tryz.underlying44 yM rfl (by decide) (by omega) u5 ou al4 [.int .i64 al4] (fun _=>True) (fun _=>False) rfl rfl ?aP (fun _ hk=>hk.elim) ?aF ?aO ?aB ?aS ?aL ?_;(case aP=>exact rfl);(case aB=>exact zB);(case aF=>exact (fun _ _=>trivial));(case aO=>exact (by (with_reducible repeat (first|apply Kd.aN|apply Kd.aT|apply Kd.aV));exact zF.out));(case aS=>exact (bW zB));(case aL=>have:=aCE.out;omega);intro aJf w14 ho hb hg hat;rw [<- aCF.out] at ho;obtain ⟨HB,aCG⟩:=zA2 hb ho;clear ho hb hg hat));go_roundg k2
          case measure=>have:=HJ2.out;have:=HK2.out;omega
          case rel=>exact ⟨(az1),(wrap64 (jS+1)),zT,H',⟨by have:=HJ2.out;have:=HK2.out;omega⟩,⟨by (with_reducible repeat (first|apply Kd.aN|apply Kd.aT|apply Kd.aV));exact aCG.out⟩,⟨zB⟩⟩
         ·rw [if_neg c13] at H;exact absurd H (by simp)
        ·rw [if_neg c11] at H;exact absurd H (by simp)
       ·rw [if_neg c10] at H;exact absurd H (by simp)
      ·rw [if_neg c9] at H;have o8:=decide_eq_false c9;clear c9;simp only [Option.some.injEq,Prod.mk.injEq] at H;obtain ⟨rfl,rfl⟩:=H;go_wp2;go_ret2;exact ⟨_,zS,by (with_reducible repeat (first|apply Kd.aN|apply Kd.aT|apply Kd.aV));exact zF.out,zB⟩
end Go.Proofs.YtpondkggmcmpfaaGreatDoor.QA
namespace Go.Proofs.YtpondkggmcmpfaaGreatDoor.T
open Go.RowKit Go.Proofs.YtpondkggmcmpfaaGreatDoorW.PrintWords Go.Proofs.YtpondkggmcmpfaaGreatDoorW.PrintLast Go.Proofs.YtpondkggmcmpfaaGreatDoorW.PrintMore
theorem oP (n:Int):IntKind.u64.wrap n=n % 18446744073709551616:=by simp [IntKind.wrap,IntKind.bits,IntKind.signed]
theorem mX (n:Int):IntKind.i64.wrap n=wrap64 n:=by rw [IntKind.wrap_i64];unfold wrap64;omega
theorem wf64 {x:Int} (h:(Lit.int .i64 x).wf=true) : -9223372036854775808<=x/\x<=9223372036854775807:=by
 simp [Lit.wf,IntKind.min,IntKind.max,IntKind.bits,IntKind.signed] at h;exact h
theorem akL {x:Int} (h:(Lit.int .u16 x).wf=true):0<=x/\x<=65535:=by
 simp [Lit.wf,IntKind.min,IntKind.max,IntKind.bits,IntKind.signed] at h;exact h
theorem aC {x:Int} (h0 : -9223372036854775808<=x) (h1:x<=9223372036854775807):wrap64 x=x:=by unfold wrap64;omega
theorem ajm (k:IntKind) (x:Int) (i:Nat) (hi:i<=k.bits) (hw:k.wrap (x % 2 ^ i)=x % 2 ^ i):bits .and k x (2 ^ i - 1)=x % 2 ^ i:=by
 have hc:((2:Int) ^ i - 1)=((2 ^ i - 1:Nat):Int):=by
   rw [Int.natCast_sub (Nat.two_pow_pos i)];simp
 have h1:(BitVec.ofInt k.bits (2 ^ i - 1)).toNat=2 ^ i - 1:=by
   rw [hc,BitVec.ofInt_natCast,BitVec.toNat_ofNat,Nat.mod_eq_of_lt];exact Nat.lt_of_lt_of_le (Nat.sub_lt (Nat.two_pow_pos i) (by decide)) (Nat.pow_le_pow_right (by decide) hi)
 have h2:(((BitVec.ofInt k.bits x).toNat:Nat):Int)=x % 2 ^ k.bits:=by
   rw [BitVec.toNat_ofInt,Int.toNat_of_nonneg (Int.emod_nonneg _ (by have:=Nat.two_pow_pos k.bits;omega))];simp
 have h3:((((BitVec.ofInt k.bits x) &&& (BitVec.ofInt k.bits (2 ^ i - 1))).toNat:Nat):Int)=x % 2 ^ i:=by
   rw [BitVec.toNat_and,h1,Nat.and_two_pow_sub_one_eq_mod];rw [Int.natCast_emod,h2];simp only [Int.natCast_pow,Int.cast_ofNat_Int];exact Int.emod_emod_of_dvd x ⟨2 ^ (k.bits - i),by rw [<- Int.pow_add];congr 1;omega⟩
 simp only [bits];rw [h3,hw]
theorem ahO (x:Int):bits .and .u64 x 1=x % 2:=by
 have:=ajm .u64 x 1 (by decide) (by rw [oP];omega);simpa using this
theorem axX (x:Int):bits .and .i64 x 1=x % 2:=by
 have:=ajm .i64 x 1 (by decide) (by rw [mX];unfold wrap64;omega);simpa using this
theorem anZ (x:Int):bits .and .u64 x 4294967295=x % 4294967296:=by
 have:=ajm .u64 x 32 (by decide) (by rw [oP];omega);simpa using this
def hold (m:Int):Int:=if m < -9223372036854775808 then -9223372036854775808 else if m > 9223372036854775807 then 9223372036854775807 else m
theorem ayq (m:Int) : -9223372036854775808<=hold m:=by unfold hold;split <;> (try split) <;> omega
theorem ap2 (m:Int):hold m<=9223372036854775807:=by unfold hold;split <;> (try split) <;> omega
theorem wQ {m:Int} (h0 : -9223372036854775808<=m) (h1:m<=9223372036854775807):hold m=m:=by unfold hold;rw [if_neg (by omega),if_neg (by omega)]
def flo (a b:Int):Int:=if 0 < b then a / b else (-a) / (-b)
def jY (a b:Int):Int:=if 0 < b then (2*a+b) / (2*b) else (2*(-a)+(-b)) / (2*(-b))
def siz (x:Int):Int:=if x < 0 then -x else x
theorem ayr {p d:Int} (_hp:0<=p) (hd:0 < d):(2*p+d) / (2*d)=if p % d>=d - p % d then p / d+1 else p / d:=by
 have e:=Int.mul_ediv_add_emod p d;have r0:=Int.emod_nonneg p (Int.ne_of_gt hd);have r1:=Int.emod_lt_of_pos p hd;have e2:2*p+d=(2*d)*(p / d)+(2*(p % d)+d):=(by rw [Int.mul_assoc];omega);rw [e2,Int.add_comm,Int.add_mul_ediv_left _ _ (by omega)];split
 . have:(2*(p % d)+d) / (2*d)=1:=by
     rw [show 2*(p % d)+d=(2*(p % d) - d)+(2*d)*1 from by omega,Int.add_mul_ediv_left _ _ (by omega),Int.ediv_eq_zero_of_lt (by omega) (by omega)];omega
   omega
 . have:(2*(p % d)+d) / (2*d)=0:=Int.ediv_eq_zero_of_lt (by omega) (by omega);omega
theorem ays {p d:Int} (_hp:0<=p) (hd:0 < d):(2*(-p)+d) / (2*d)=if p % d > d - p % d then -(p / d+1) else -(p / d):=by
 have e:=Int.mul_ediv_add_emod p d;have r0:=Int.emod_nonneg p (Int.ne_of_gt hd);have r1:=Int.emod_lt_of_pos p hd;have e2:2*(-p)+d=(2*d)*(-(p / d))+(d - 2*(p % d)):=(by rw [Int.mul_assoc,Int.mul_neg,Int.mul_neg];omega);rw [e2,Int.add_comm,Int.add_mul_ediv_left _ _ (by omega)];split
 . have:(d - 2*(p % d)) / (2*d) = -1:=by
     rw [show d - 2*(p % d)=(3*d - 2*(p % d))+(2*d)*(-1) from by omega,Int.add_mul_ediv_left _ _ (by omega),Int.ediv_eq_zero_of_lt (by omega) (by omega)];omega
   omega
 . have:(d - 2*(p % d)) / (2*d)=0:=Int.ediv_eq_zero_of_lt (by omega) (by omega);omega
def sgn (below:Bool) (m:Int):Int:=if below=true then -m else m
theorem adI (a b:Int):sgn ((decide (a < 0)) != (decide (b < 0))) (siz a*siz b)=a*b:=by
 unfold sgn siz;by_cases h:a < 0 <;> by_cases k:b < 0 <;> simp [h,k,Int.neg_mul,Int.mul_neg]
theorem alG (a:Int):sgn (decide (a < 0)) (siz a)=a:=by
 unfold sgn siz;by_cases h:a < 0 <;> simp [h]
theorem ap0 (x:Bool) (d p:Int) (_hd:d≠0):jY (sgn (x != decide (d < 0)) p) (siz d)=jY (sgn x p) d:=by
 unfold sgn siz jY;by_cases k:d < 0
 . rw [if_pos k];rw [if_pos (show 0 < -d from by omega),if_neg (show ¬ 0 < d from by omega)];cases x <;> simp [k]
 . simp [k]
theorem aqt (x:Bool) (d p:Int) (_hd:d≠0):flo (sgn (x != decide (d < 0)) p) (siz d)=flo (sgn x p) d:=by
 unfold sgn siz flo;by_cases k:d < 0
 . rw [if_pos k];rw [if_pos (show 0 < -d from by omega),if_neg (show ¬ 0 < d from by omega)];cases x <;> simp [k]
 . simp [k]
theorem aft (below:Bool) {p d:Int} (hp:0<=p) (hd:0 < d) :
   jY (sgn below p) d=sgn below (if below=true then (if p % d > d - p % d then p / d+1 else p / d) else (if p % d>=d - p % d then p / d+1 else p / d)):=by
 unfold jY sgn;rw [if_pos hd];cases below
 . simp only [Bool.false_eq_true,if_false];exact ayr hp hd
 . simp only [if_true];rw [ays hp hd];split <;> rfl
theorem neg_ediv {p d:Int} (hd:0 < d):(-p) / d=if p % d=0 then -(p / d) else -(p / d+1):=by
 have e:=Int.mul_ediv_add_emod p d;have r0:=Int.emod_nonneg p (Int.ne_of_gt hd);have r1:=Int.emod_lt_of_pos p hd;rw [show -p = -(p % d)+d*(-(p / d)) from by rw [Int.mul_neg];omega,Int.add_mul_ediv_left _ _ (by omega)];split
 . rename_i h;rw [h];simp
 . have:(-(p % d)) / d = -1:=by
     rw [show -(p % d)=(d - p % d)+d*(-1) from by omega,Int.add_mul_ediv_left _ _ (by omega),Int.ediv_eq_zero_of_lt (by omega) (by omega)];omega
   omega
theorem aqu (below:Bool) {p d:Int} (hd:0 < d) :
   flo (sgn below p) d=sgn below (if below=true/\p % d≠0 then p / d+1 else p / d):=by
 unfold flo sgn;rw [if_pos hd];cases below
 . simp
 . simp only [if_true,true_and];rw [neg_ediv hd];by_cases h:p % d=0 <;> simp [h]
abbrev I64 (x:Int):Prop := -9223372036854775808<=x/\x<=9223372036854775807
abbrev U64 (x:Int):Prop:=0<=x/\x < 18446744073709551616
theorem sN {a:Int} (h:I64 a):0<=siz a/\siz a<=9223372036854775808:=by unfold siz;split <;> omega
theorem afs {a:Int}:siz a=0↔a=0:=by unfold siz;split <;> omega
theorem tZ (m:Int):I64 (hold m):=⟨ayq m,ap2 m⟩
theorem aja (a:Int) {b:Int} (hb:0 < b):a.tmod b=if 0<=a\/a % b=0 then a % b else a % b - b:=by
 have e:=Int.tmod_eq_emod (a:=a) (b:=b);have hdv:=Int.dvd_iff_emod_eq_zero (a:=b) (b:=a);rw [e];simp only [hdv];split
 . simp
 . rw [Int.natAbs_of_nonneg (by omega)]
def md (a b:Int):Int:=if b=0 then 0 else if 0 < b then a % b else -((-a) % (-b))
def sh (x n:Int):Int:=if n<=0 then x else jY x (2 ^ n.toNat)
theorem pow_pos (n:Nat):(0:Int) < 2 ^ n:=Int.pow_pos (by decide)
theorem oI (n:Nat):(2:Int) ^ (n+1)=2*2 ^ n:=by rw [Int.pow_succ,Int.mul_comm]
theorem uM {m n:Nat} (h:m<=n):(2:Int) ^ m<=2 ^ n:=by
 obtain ⟨d,rfl⟩:=Nat.exists_eq_add_of_le h;rw [Int.pow_add];have h1:=pow_pos m;have h2:=pow_pos d
 calc (2:Int) ^ m=2 ^ m*1:=by rw [Int.mul_one]
   _<=2 ^ m*2 ^ d:=Int.mul_le_mul_of_nonneg_left (by omega) (by omega)
theorem afr (x:Int) (n:Nat) (hn:1<=n):jY x (2 ^ n)=x / 2 ^ n+x / 2 ^ (n - 1) % 2:=by
 obtain ⟨m,rfl⟩:∃ m,n=m+1:=⟨n - 1,by omega⟩;rw [Nat.add_sub_cancel];have hp:=pow_pos m;unfold jY;rw [if_pos (pow_pos _),oI];have e1:(2*x+2*2 ^ m) / (2*(2*2 ^ m))=(x+2 ^ m) / (2*2 ^ m):=by
   rw [<- Int.mul_add];exact Int.mul_ediv_mul_of_pos _ _ (by omega)
 have e2:(x+2 ^ m) / (2*2 ^ m)=(x / 2 ^ m+1) / 2:=by
   rw [Int.mul_comm,<- Int.ediv_ediv_of_nonneg (by omega)];congr 1
   have:=Int.add_mul_ediv_right x 1 (show (2:Int) ^ m≠0 from by omega);rw [Int.one_mul] at this;exact this
 have e3:x / (2*2 ^ m)=x / 2 ^ m / 2:=(by rw [Int.mul_comm,<- Int.ediv_ediv_of_nonneg (by omega)]);rw [e1,e2,e3];omega
theorem aiF {x d:Int} (hd:18446744073709551616<=d) (hx:I64 x):jY x d=0:=by
 unfold jY;rw [if_pos (by omega)];exact Int.ediv_eq_zero_of_lt (by omega) (by omega)
theorem an0 (x:Int):jY x 1=x:=by unfold jY;rw [if_pos (by decide)];omega
theorem xP {a d q r:Int} (h:q*d+r=a) (h0:0<=r) (h1:r < d):a / d=q/\a % d=r:=by
 subst h;constructor
 . rw [Int.add_comm,Int.add_mul_ediv_right _ _ (by omega),Int.ediv_eq_zero_of_lt h0 h1];omega
 . rw [Int.add_comm,Int.add_mul_emod_self_right,Int.emod_eq_of_lt h0 h1]
theorem aaQ (a:Int) (n:Nat):a / 2 ^ n=2*(a / 2 ^ (n+1))+a / 2 ^ n % 2:=by
 have e:a / 2 ^ (n+1)=a / 2 ^ n / 2:=(by rw [oI,Int.mul_comm,<- Int.ediv_ediv_of_nonneg (by have:=pow_pos n;omega)]);rw [e];omega
theorem an2 {x n:Int} (hx:I64 x):I64 (sh x n):=by
 unfold sh;split
 . exact hx
 . by_cases h:64<=n
   . rw [aiF (x:=x) _ hx]
     . constructor <;> omega
     . calc (18446744073709551616:Int)=2 ^ 64:=by decide
         _<=2 ^ n.toNat:=uM (by omega)
   . rw [afr x n.toNat (by omega)];have hp:=pow_pos n.toNat;have h2:(2:Int)<=2 ^ n.toNat:=by
       calc (2:Int)=2 ^ 1:=by decide
         _<=2 ^ n.toNat:=uM (by omega)
     have a : -9223372036854775808<=x / 2 ^ n.toNat:=by
       rw [Int.le_ediv_iff_mul_le hp];have : -9223372036854775808*2 ^ n.toNat <= -9223372036854775808*1:=Int.mul_le_mul_of_nonpos_left (by decide) (by omega);omega
     have b:x / 2 ^ n.toNat < 4611686018427387904:=by
       rw [Int.ediv_lt_iff_lt_mul hp]
       calc x < 4611686018427387904*2:=by omega
         _<=4611686018427387904*2 ^ n.toNat:=Int.mul_le_mul_of_nonneg_left h2 (by decide)
     constructor <;> omega
end Go.Proofs.YtpondkggmcmpfaaGreatDoor.T
namespace Go.Proofs.YtpondkggmcmpfaaGreatDoor.S
open Go.Sort
variable {α:Type} [Inhabited α]
set_option linter.unusedVariables false
set_option linter.unusedSectionVars false
theorem swp_size (d:Array α) (i j:Nat):(swp d i j).size=d.size:=by unfold swp;simp
theorem swp_get (d:Array α) {i j:Nat} (hi:i < d.size) (hj:j < d.size) (k:Nat):(swp d i j)[k]! = if k=j then d[i]! else if k=i then d[j]! else d[k]! := by
 unfold swp;by_cases h:k=j
 . subst h;rw [if_pos rfl,getElem!_set_same _ _ _ (by simpa using hj)]
 . rw [if_neg h,getElem!_set_other _ _ _ _ h];by_cases g:k=i
   . subst g;rw [if_pos rfl,getElem!_set_same _ _ _ hi]
   . rw [if_neg g,getElem!_set_other _ _ _ _ g]
def nM (d:Array α) (a b:Nat):Nat->Array α
  | 0=>d
  | n+1=>swp (nM d a b n) (a+n) (b+n)
theorem lZ (d:Array α) (a b:Nat):∀ n,(nM d a b n).size=d.size
  | 0=>rfl
  | n+1=>by rw [nM,swp_size,lZ d a b n]
theorem ad6 (d:Array α) (a b:Nat):∀ n,a+n<=b->b+n<=d.size->∀ k,(nM d a b n)[k]! = if a<=k/\k < a+n then d[k - a+b]! else if b<=k/\k < b+n then d[k - b+a]! else d[k]! := by
 intro n;induction n with
 | zero=>intro h1 h2 k;rw [if_neg (by omega),if_neg (by omega)];rfl
 | succ n ih =>
   intro h1 h2 k;have hz:=lZ d a b n;rw [nM,swp_get _ (by omega) (by omega)];have i1:=ih (by omega) (by omega);by_cases c1:k=b+n
   . rw [if_pos c1,i1,if_neg (by omega),if_neg (by omega),if_neg (by omega),if_pos (by omega)];exact congrArg (fun q=>d[q]!) (by omega)
   rw [if_neg c1];by_cases c2:k=a+n
   . rw [if_pos c2,i1,if_neg (by omega),if_neg (by omega),if_pos (by omega)];exact congrArg (fun q=>d[q]!) (by omega)
   rw [if_neg c2,i1];by_cases c3:a<=k/\k < a+n
   . rw [if_pos c3,if_pos (by omega)]
   rw [if_neg c3,if_neg (show ¬ (a<=k/\k < a+(n+1)) from by omega)];by_cases c4:b<=k/\k < b+n
   . rw [if_pos c4,if_pos (by omega)]
   rw [if_neg c4,if_neg (by omega)]
def oq (m:Nat):Nat->Array α->Nat->Nat->Array α
  | 0,d,i,_=>nM d (m - i) m i
  | f+1,d,i,j=>if i=j then nM d (m - i) m i else if j < i then oq m f (nM d (m - i) m j) (i - j) j else oq m f (nM d (m - i) (m+j - i) i) i (j - i)
theorem apq (m:Nat):∀ f (d:Array α) i j,(oq m f d i j).size=d.size:=by
 intro f;induction f with
 | zero=>intro d i j;exact lZ _ _ _ _
 | succ f ih =>
   intro d i j;rw [oq];split
   . exact lZ _ _ _ _
   . split
     . rw [ih,lZ]
     . rw [ih,lZ]
theorem aiy (m:Nat):∀ f (d:Array α) i j,i+j<=f+1->1<=i->1<=j->i<=m->m+j<=d.size->∀ k,(oq m f d i j)[k]! = if m - i<=k/\k < m - i+j then d[k+i]! else if m - i+j<=k/\k < m+j then d[k - j]! else d[k]! := by
 intro f;induction f with
 | zero=>intro d i j hf hi hj;omega
 | succ f ih =>
   intro d i j hf hi hj him hmj k;rw [oq];by_cases c:i=j
   . subst c;rw [if_pos rfl,ad6 _ _ _ _ (by omega) (by omega)];by_cases c1:m - i<=k/\k < m - i+i
     . rw [if_pos c1,if_pos c1];exact congrArg (fun q=>d[q]!) (by omega)
     rw [if_neg c1,if_neg c1];by_cases c2:m<=k/\k < m+i
     . rw [if_pos c2,if_pos (by omega)];exact congrArg (fun q=>d[q]!) (by omega)
     rw [if_neg c2,if_neg (by omega)]
   rw [if_neg c];by_cases c0:j < i
   . rw [if_pos c0,ih _ _ _ (by omega) (by omega) hj (by omega) (by rw [lZ];omega)];have g:=ad6 d (m - i) m j (by omega) (by omega);by_cases c1:m - (i - j)<=k/\k < m - (i - j)+j
     . rw [if_pos c1,g,if_neg (show ¬ (m - i<=k+(i - j)/\k+(i - j) < m - i+j) from by omega),if_pos (show m<=k+(i - j)/\k+(i - j) < m+j from by omega),
         if_neg (show ¬ (m - i<=k/\k < m - i+j) from by omega),if_pos (show m - i+j<=k/\k < m+j from by omega)]
       exact congrArg (fun q=>d[q]!) (by omega)
     rw [if_neg c1];by_cases c2:m - (i - j)+j<=k/\k < m+j
     . rw [if_pos c2,g,if_neg (show ¬ (m - i<=k - j/\k - j < m - i+j) from by omega),if_neg (show ¬ (m<=k - j/\k - j < m+j) from by omega),
         if_neg (show ¬ (m - i<=k/\k < m - i+j) from by omega),if_pos (show m - i+j<=k/\k < m+j from by omega)]
     rw [if_neg c2,g];by_cases c3:m - i<=k/\k < m - i+j
     . rw [if_pos c3,if_pos c3];exact congrArg (fun q=>d[q]!) (by omega)
     rw [if_neg c3,if_neg c3,if_neg (show ¬ (m<=k/\k < m+j) from by omega),if_neg (show ¬ (m - i+j<=k/\k < m+j) from by omega)]
   . rw [if_neg c0,ih _ _ _ (by omega) hi (by omega) (by omega) (by rw [lZ];omega)];have g:=ad6 d (m - i) (m+j - i) i (by omega) (by omega);by_cases c1:m - i<=k/\k < m - i+(j - i)
     . rw [if_pos c1,g,if_neg (show ¬ (m - i<=k+i/\k+i < m - i+i) from by omega),if_neg (show ¬ (m+j - i<=k+i/\k+i < m+j - i+i) from by omega),if_pos (show m - i<=k/\k < m - i+j from by omega)]
     rw [if_neg c1];by_cases c2:m - i+(j - i)<=k/\k < m+(j - i)
     . rw [if_pos c2,g,if_pos (show m - i<=k - (j - i)/\k - (j - i) < m - i+i from by omega),if_pos (show m - i<=k/\k < m - i+j from by omega)];exact congrArg (fun q=>d[q]!) (by omega)
     rw [if_neg c2,g];by_cases c4:m - i+j<=k/\k < m+j
     . rw [if_neg (show ¬ (m - i<=k/\k < m - i+i) from by omega),if_pos (show m+j - i<=k/\k < m+j - i+i from by omega),if_neg (show ¬ (m - i<=k/\k < m - i+j) from by omega),if_pos c4];exact congrArg (fun q=>d[q]!) (by omega)
     rw [if_neg (show ¬ (m - i<=k/\k < m - i+i) from by omega),if_neg (show ¬ (m+j - i<=k/\k < m+j - i+i) from by omega),if_neg (show ¬ (m - i<=k/\k < m - i+j) from by omega),if_neg c4]
def Lx (key:α->Int) (idx:α->Nat) (x y:α):Prop:=key y < key x\/key x=key y/\idx x < idx y
theorem Lx.trans {key:α->Int} {idx:α->Nat} {x y z:α} (h:Lx key idx x y) (g:Lx key idx y z):Lx key idx x z:=by
 unfold Lx at *;omega
def Srt (key:α->Int) (idx:α->Nat) (d:Array α) (a b:Nat):Prop:=∀ i j,a<=i->i < j->j < b->Lx key idx d[i]! d[j]!
def Sam (d d':Array α) (a b:Nat):Prop:=d'.size=d.size/\(∀ k,k < a\/b<=k->d'[k]! = d[k]!)/\(∀ k,a<=k->k < b->∃ l,a<=l/\l < b/\d'[k]! = d[l]!)/\(∀ k,a<=k->k < b->∃ l,a<=l/\l < b/\d[k]! = d'[l]!)
theorem Sam.refl (d:Array α) (a b:Nat):Sam d d a b:=⟨rfl,fun _ _=>rfl,fun k h1 h2=>⟨k,h1,h2,rfl⟩,fun k h1 h2=>⟨k,h1,h2,rfl⟩⟩
theorem Sam.trans {d d' d'':Array α} {a b:Nat} (h:Sam d d' a b) (g:Sam d' d'' a b):Sam d d'' a b:=by
 obtain ⟨h1,h2,h3,h4⟩:=h;obtain ⟨g1,g2,g3,g4⟩:=g;refine ⟨g1.trans h1,fun k hk=>(g2 k hk).trans (h2 k hk),fun k a1 a2 => ?_,fun k a1 a2 => ?_⟩
 . obtain ⟨l,l1,l2,l3⟩:=g3 k a1 a2;obtain ⟨m,m1,m2,m3⟩:=h3 l l1 l2;exact ⟨m,m1,m2,l3.trans m3⟩
 . obtain ⟨l,l1,l2,l3⟩:=h4 k a1 a2;obtain ⟨m,m1,m2,m3⟩:=g4 l l1 l2;exact ⟨m,m1,m2,l3.trans m3⟩
theorem Sam.wide {d d':Array α} {a b c e:Nat} (h:Sam d d' a b) (hc:c<=a) (he:b<=e):Sam d d' c e:=by
 obtain ⟨h1,h2,h3,h4⟩:=h;refine ⟨h1,fun k hk=>h2 k (by omega),fun k a1 a2 => ?_,fun k a1 a2 => ?_⟩
 . by_cases c1:a<=k/\k < b
   . obtain ⟨l,l1,l2,l3⟩:=h3 k c1.1 c1.2;exact ⟨l,by omega,by omega,l3⟩
   . exact ⟨k,a1,a2,h2 k (by omega)⟩
 . by_cases c1:a<=k/\k < b
   . obtain ⟨l,l1,l2,l3⟩:=h4 k c1.1 c1.2;exact ⟨l,by omega,by omega,l3⟩
   . exact ⟨k,a1,a2,(h2 k (by omega)).symm⟩
theorem Sam.srt {key:α->Int} {idx:α->Nat} {d d':Array α} {a b c e:Nat} (h:Sam d d' a b) (hs:Srt key idx d c e) (hd:e<=a\/b<=c):Srt key idx d' c e:=by
 intro i j h1 h2 h3;rw [h.2.1 i (by omega),h.2.1 j (by omega)];exact hs i j h1 h2 h3
theorem Sam.swp {d:Array α} {a b i j:Nat} (hi:a<=i/\i < b) (hj:a<=j/\j < b) (hb:b<=d.size):Sam d (swp d i j) a b:=by
 have g:=swp_get d (i:=i) (j:=j) (by omega) (by omega);refine ⟨swp_size _ _ _,fun k hk => ?_,fun k a1 a2 => ?_,fun k a1 a2 => ?_⟩
 . rw [g,if_neg (by omega),if_neg (by omega)]
 . rw [g];by_cases c:k=j
   . rw [if_pos c];exact ⟨i,hi.1,hi.2,rfl⟩
   . rw [if_neg c];by_cases c2:k=i
     . rw [if_pos c2];exact ⟨j,hj.1,hj.2,rfl⟩
     . rw [if_neg c2];exact ⟨k,a1,a2,rfl⟩
 . by_cases c:k=i
   . subst c;exact ⟨j,hj.1,hj.2,by rw [g,if_pos rfl]⟩
   . by_cases c2:k=j
     . subst c2;refine ⟨i,hi.1,hi.2,?_⟩;rw [g,if_neg (by omega),if_pos rfl]
     . exact ⟨k,a1,a2,by rw [g,if_neg c2,if_neg c]⟩
theorem Sam.rot {d:Array α} {m i j:Nat} (hi:1<=i) (hj:1<=j) (him:i<=m) (hmj:m+j<=d.size):Sam d (oq m (i+j) d i j) (m - i) (m+j):=by
 have g:=aiy m (i+j) d i j (by omega) hi hj him hmj;refine ⟨apq _ _ _ _ _,fun k hk => ?_,fun k a1 a2 => ?_,fun k a1 a2 => ?_⟩
 . rw [g,if_neg (by omega),if_neg (by omega)]
 . rw [g];by_cases c:m - i<=k/\k < m - i+j
   . rw [if_pos c];exact ⟨k+i,by omega,by omega,rfl⟩
   . rw [if_neg c,if_pos (by omega)];exact ⟨k - j,by omega,by omega,rfl⟩
 . by_cases c:k < m
   . refine ⟨k+j,by omega,by omega,?_⟩;rw [g,if_neg (by omega),if_pos (by omega)];exact congrArg (fun q=>d[q]!) (by omega)
   . refine ⟨k - i,by omega,by omega,?_⟩;rw [g,if_pos (by omega)];exact congrArg (fun q=>d[q]!) (by omega)
def Mrg (key:α->Int) (idx:α->Nat) (d:Array α) (a m b:Nat):Prop :=
 Srt key idx d a m/\Srt key idx d m b/\(∀ i j,a<=i->i < m->m<=j->j < b->idx d[i]! < idx d[j]!)
theorem aeE {key:α->Int} {idx:α->Nat} {x y:α} (h:idx x < idx y):(key x < key y↔Lx key idx y x)/\(¬ key x < key y↔Lx key idx x y):=by
 unfold Lx;omega
theorem Srt.join {key:α->Int} {idx:α->Nat} {d:Array α} {a m b:Nat} (h1:Srt key idx d a m) (h2:Srt key idx d m b) (h:∀ i j,a<=i->i < m->m<=j->j < b->Lx key idx d[i]! d[j]!):Srt key idx d a b:=by
 intro i j hi hij hj;by_cases c:j < m
 . exact h1 i j hi hij c
 . by_cases c2:m<=i
   . exact h2 i j c2 hij hj
   . exact h i j hi (by omega) (by omega) hj
def abT (a:Nat):Nat->Array α->Array α
  | 0,d=>d
  | n+1,d=>swp (abT a n d) (a+n) (a+n+1)
theorem aeF (a:Nat):∀ n (d:Array α),(abT a n d).size=d.size
  | 0,_=>rfl
  | n+1,d=>by rw [abT,swp_size,aeF a n d]
theorem awd (a:Nat) (d:Array α):∀ n,a+n < d.size->∀ k,(abT a n d)[k]! = if a<=k/\k < a+n then d[k+1]! else if k=a+n then d[a]! else d[k]! := by
 intro n;induction n with
 | zero =>
   intro h k;rw [if_neg (by omega)];by_cases c:k=a+0
   . rw [if_pos c];subst c;rfl
   . rw [if_neg c];rfl
 | succ n ih =>
   intro h k;have hz:=aeF a n d;have i1:=ih (by omega);rw [abT,swp_get _ (by omega) (by omega)];by_cases c1:k=a+n+1
   . rw [if_pos c1,i1,if_neg (by omega),if_pos rfl,if_neg (by omega),if_pos (by omega)]
   rw [if_neg c1];by_cases c2:k=a+n
   . rw [if_pos c2,i1,if_neg (by omega),if_neg (by omega),if_pos (by omega)];exact congrArg (fun q=>d[q]!) (by omega)
   rw [if_neg c2,i1];by_cases c3:a<=k/\k < a+n
   . rw [if_pos c3,if_pos (by omega)]
   rw [if_neg c3,if_neg (by omega),if_neg (by omega),if_neg (by omega)]
def abU (m:Nat):Nat->Array α->Array α
  | 0,d=>d
  | n+1,d=>swp (abU m n d) (m - n) (m - n - 1)
theorem aeG (m:Nat):∀ n (d:Array α),(abU m n d).size=d.size
  | 0,_=>rfl
  | n+1,d=>by rw [abU,swp_size,aeG m n d]
theorem awe (m:Nat) (d:Array α) (hm:m < d.size):∀ n,n<=m->∀ k,(abU m n d)[k]! = if m - n < k/\k<=m then d[k - 1]! else if k=m - n then d[m]! else d[k]! := by
 intro n;induction n with
 | zero =>
   intro h k;rw [if_neg (by omega)];by_cases c:k=m - 0
   . rw [if_pos c];subst c;rfl
   . rw [if_neg c];rfl
 | succ n ih =>
   intro h k;have hz:=aeG m n d;have i1:=ih (by omega);rw [abU,swp_get _ (by omega) (by omega)];by_cases c1:k=m - n - 1
   . rw [if_pos c1,i1,if_neg (by omega),if_pos rfl,if_neg (by omega),if_pos (by omega)]
   rw [if_neg c1];by_cases c2:k=m - n
   . rw [if_pos c2,i1,if_neg (by omega),if_neg (by omega),if_pos (by omega)];exact congrArg (fun q=>d[q]!) (by omega)
   rw [if_neg c2,i1];by_cases c3:m - n < k/\k<=m
   . rw [if_pos c3,if_pos (by omega)]
   rw [if_neg c3,if_neg (by omega),if_neg (by omega),if_neg (by omega)]
theorem Sam.abT {d:Array α} {a n b:Nat} (hn:a+n < b) (hb:b<=d.size):∀ q,q<=n->Sam d (abT a q d) a b
  | 0,_=>Sam.refl _ _ _
  | q+1,h=>(Sam.abT hn hb q (by omega)).trans (Sam.swp ⟨by omega,by omega⟩ ⟨by omega,by omega⟩ (by rw [aeF];exact hb))
theorem Sam.abU {d:Array α} {a m n b:Nat} (hn:a+n<=m) (hm:m < b) (hb:b<=d.size):∀ q,q<=n->Sam d (abU m q d) a b
  | 0,_=>Sam.refl _ _ _
  | q+1,h=>(Sam.abU hn hm hb q (by omega)).trans (Sam.swp ⟨by omega,by omega⟩ ⟨by omega,by omega⟩ (by rw [aeG];exact hb))
theorem atC {key:α->Int} {idx:α->Nat} {d:Array α} {a b i:Nat} (hM:Mrg key idx d a (a+1) b) (hb:b<=d.size) (hi:a+1<=i/\i<=b)
    (h1:i=a+1\/Lx key idx d[i - 1]! d[a]!) (h2:i=b\/Lx key idx d[a]! d[i]!):Srt key idx (abT a (i - 1 - a) d) a b:=by
  obtain ⟨_,s2,_⟩:=hM;have g:=awd a d (i - 1 - a) (by omega);have lo:∀ k,a+1<=k->k < i->Lx key idx d[k]! d[a]! := by
    intro k k1 k2;rcases h1 with h|h
    . omega
    . by_cases c:k=i - 1
      . subst c;exact h
      . exact (s2 k (i - 1) k1 (by omega) (by omega)).trans h
  have hi2:∀ k,i<=k->k < b->Lx key idx d[a]! d[k]! := by
    intro k k1 k2;rcases h2 with h|h
    . omega
    . by_cases c:k=i
      . subst c;exact h
      . exact h.trans (s2 i k (by omega) (by omega) k2)
  intro p q hp hpq hq;rw [g,g];by_cases c1:a<=p/\p < a+(i - 1 - a)
  . rw [if_pos c1];by_cases c2:a<=q/\q < a+(i - 1 - a)
    . rw [if_pos c2];exact s2 _ _ (by omega) (by omega) (by omega)
    . rw [if_neg c2];by_cases c3:q=a+(i - 1 - a)
      . rw [if_pos c3];exact lo _ (by omega) (by omega)
      . rw [if_neg c3];exact s2 _ _ (by omega) (by omega) (by omega)
  . rw [if_neg c1,if_neg (show ¬ (a<=q/\q < a+(i - 1 - a)) from by omega),if_neg (show ¬ q=a+(i - 1 - a) from by omega)];by_cases c3:p=a+(i - 1 - a)
    . rw [if_pos c3];exact hi2 _ (by omega) hq
    . rw [if_neg c3];exact s2 _ _ (by omega) (by omega) hq
theorem awf {key:α->Int} {idx:α->Nat} {d:Array α} {a m i:Nat} (hM:Mrg key idx d a m (m+1)) (hb:m+1<=d.size) (hi:a<=i/\i<=m)
    (h1:i=a\/Lx key idx d[i - 1]! d[m]!) (h2:i=m\/Lx key idx d[m]! d[i]!):Srt key idx (abU m (m - i) d) a (m+1):=by
  obtain ⟨s1,_,_⟩:=hM;have g:=awe m d (by omega) (m - i) (by omega);have lo:∀ k,a<=k->k < i->Lx key idx d[k]! d[m]! := by
    intro k k1 k2;rcases h1 with h|h
    . omega
    . by_cases c:k=i - 1
      . subst c;exact h
      . exact (s1 k (i - 1) k1 (by omega) (by omega)).trans h
  have hi2:∀ k,i<=k->k < m->Lx key idx d[m]! d[k]! := by
    intro k k1 k2;rcases h2 with h|h
    . omega
    . by_cases c:k=i
      . subst c;exact h
      . exact h.trans (s1 i k (by omega) (by omega) k2)
  intro p q hp hpq hq;rw [g,g];by_cases c1:m - (m - i) < p/\p<=m
  . rw [if_pos c1,if_pos (by omega)];exact s1 _ _ (by omega) (by omega) (by omega)
  . rw [if_neg c1];by_cases c3:p=m - (m - i)
    . rw [if_pos c3,if_pos (by omega)];exact hi2 _ (by omega) (by omega)
    . rw [if_neg c3];by_cases c2:m - (m - i) < q/\q<=m
      . rw [if_pos c2];exact s1 _ _ (by omega) (by omega) (by omega)
      . rw [if_neg c2];by_cases c4:q=m - (m - i)
        . rw [if_pos c4];exact lo _ hp (by omega)
        . rw [if_neg c4];exact s1 _ _ (by omega) (by omega) (by omega)
theorem turned {key:α->Int} {idx:α->Nat} {d d':Array α} {a m b mid s e:Nat} (hM:Mrg key idx d a m b) (ha:a<=s/\s<=m) (he:m<=e/\e<=b) (hse:s+e=m+mid) (hb:b<=d.size)
    (hmid:a<=mid/\mid<=b) (h1:s=a\/e=b\/Lx key idx d[s - 1]! d[e]!) (h2:s=m\/e=m\/Lx key idx d[e - 1]! d[s]!)
    (hd:(s < m/\m < e/\d'=oq m (m - s+(e - m)) d (m - s) (e - m))\/((s=m\/e=m)/\d'=d)) :
    Sam d d' a b/\Mrg key idx d' a s mid/\Mrg key idx d' mid e b/\∀ i j,a<=i->i < mid->mid<=j->j < b->Lx key idx d'[i]! d'[j]! := by
  obtain ⟨s1,s2,s3⟩:=hM;have A1:∀ k l,a<=k->k < s->e<=l->l < b->Lx key idx d[k]! d[l]! := by
    intro k l k1 k2 l1 l2;rcases h1 with h|h|h
    . omega
    . omega
    . have x:Lx key idx d[k]! d[e]! := by
        by_cases c:k=s - 1
        . subst c;exact h
        . exact (s1 k (s - 1) k1 (by omega) (by omega)).trans h
      by_cases c:l=e
      . subst c;exact x
      . exact x.trans (s2 e l (by omega) (by omega) l2)
  have A2:∀ k l,m<=k->k < e->s<=l->l < m->Lx key idx d[k]! d[l]! := by
    intro k l k1 k2 l1 l2;rcases h2 with h|h|h
    . omega
    . omega
    . have x:Lx key idx d[k]! d[s]! := by
        by_cases c:k=e - 1
        . subst c;exact h
        . exact (s2 k (e - 1) k1 (by omega) (by omega)).trans h
      by_cases c:l=s
      . subst c;exact x
      . exact x.trans (s1 s l (by omega) (by omega) l2)
  have G:Sam d d' a b/\∀ k,d'[k]! = if s<=k/\k < mid then d[k+m - s]! else if mid<=k/\k < e then d[k+s - mid]! else d[k]! := by
    rcases hd with ⟨c1,c2,rfl⟩|⟨c1,rfl⟩
    . have g:=aiy m (m - s+(e - m)) d (m - s) (e - m) (by omega) (by omega) (by omega) (by omega) (by omega);refine ⟨(Sam.rot (d:=d) (m:=m) (i:=m - s) (j:=e - m) (by omega) (by omega) (by omega) (by omega)).wide (by omega) (by omega),fun k => ?_⟩;rw [g];by_cases x1:s<=k/\k < mid
      . rw [if_pos x1,if_pos (by omega)];exact congrArg (fun q=>d[q]!) (by omega)
      rw [if_neg x1,if_neg (by omega)];by_cases x2:mid<=k/\k < e
      . rw [if_pos x2,if_pos (by omega)];exact congrArg (fun q=>d[q]!) (by omega)
      rw [if_neg x2,if_neg (by omega)]
    . refine ⟨Sam.refl _ _ _,fun k => ?_⟩;by_cases x1:s<=k/\k < mid
      . rw [if_pos x1];exact congrArg (fun q=>d'[q]!) (by omega)
      rw [if_neg x1];by_cases x2:mid<=k/\k < e
      . rw [if_pos x2];exact congrArg (fun q=>d'[q]!) (by omega)
      rw [if_neg x2]
  obtain ⟨GS,g⟩:=G;have p1:∀ k,a<=k->k < s->d'[k]! = d[k]! := fun k k1 k2=>by rw [g,if_neg (by omega),if_neg (by omega)]
  have p2:∀ k,s<=k->k < mid->d'[k]! = d[k+m - s]! := fun k k1 k2=>by rw [g,if_pos (by omega)]
  have p3:∀ k,mid<=k->k < e->d'[k]! = d[k+s - mid]! := fun k k1 k2=>by rw [g,if_neg (by omega),if_pos (by omega)]
  have p4:∀ k,e<=k->k < b->d'[k]! = d[k]! := fun k k1 k2=>by rw [g,if_neg (by omega),if_neg (by omega)]
  refine ⟨GS,⟨?_,?_,?_⟩,⟨?_,?_,?_⟩,?_⟩
  . intro i j i1 i2 i3;rw [p1 i i1 (by omega),p1 j (by omega) i3];exact s1 i j i1 i2 (by omega)
  . intro i j i1 i2 i3;rw [p2 i i1 (by omega),p2 j (by omega) i3];exact s2 _ _ (by omega) (by omega) (by omega)
  . intro i j i1 i2 i3 i4;rw [p1 i i1 i2,p2 j i3 i4];exact s3 _ _ i1 (by omega) (by omega) (by omega)
  . intro i j i1 i2 i3;rw [p3 i i1 (by omega),p3 j (by omega) i3];exact s1 _ _ (by omega) (by omega) (by omega)
  . intro i j i1 i2 i3;rw [p4 i i1 (by omega),p4 j (by omega) i3];exact s2 _ _ (by omega) (by omega) (by omega)
  . intro i j i1 i2 i3 i4;rw [p3 i i1 i2,p4 j i3 i4];exact s3 _ _ (by omega) (by omega) (by omega) (by omega)
  . intro i j i1 i2 i3 i4;by_cases x1:i < s
    . rw [p1 i i1 x1];by_cases x2:j < e
      . rw [p3 j i3 x2];exact s1 _ _ i1 (by omega) (by omega)
      . rw [p4 j (by omega) i4];exact A1 _ _ i1 x1 (by omega) i4
    . rw [p2 i (by omega) i2];by_cases x2:j < e
      . rw [p3 j i3 x2];exact A2 _ _ (by omega) (by omega) (by omega) (by omega)
      . rw [p4 j (by omega) i4];exact s2 _ _ (by omega) (by omega) i4
theorem Mrg.az2 {key:α->Int} {idx:α->Nat} {d d':Array α} {a m b c e:Nat} (h:Mrg key idx d a m b) (g:Sam d d' c e) (hm:a<=m/\m<=b) (hd:b<=c\/e<=a):Mrg key idx d' a m b:=by
 obtain ⟨s1,s2,s3⟩:=h;have q:∀ k,a<=k->k < b->d'[k]! = d[k]! := fun k k1 k2=>g.2.1 k (by omega);refine ⟨fun i j i1 i2 i3 => ?_,fun i j i1 i2 i3 => ?_,fun i j i1 i2 i3 i4 => ?_⟩
 . rw [q i i1 (by omega),q j (by omega) (by omega)];exact s1 i j i1 i2 i3
 . rw [q i (by omega) (by omega),q j (by omega) i3];exact s2 i j i1 i2 i3
 . rw [q i i1 (by omega),q j (by omega) i4];exact s3 i j i1 i2 i3 i4
end Go.Proofs.YtpondkggmcmpfaaGreatDoor.S
namespace Go.Proofs.YtpondkggmcmpfaaGreatDoor.S
open Go.Shelf Go.RowKit Go.Lib Go.Sort
set_option linter.unusedVariables false
variable {α:Type} [Inhabited α]
set_option maxHeartbeats 4000000 in
set_option maxRecDepth 1000000 in
theorem aeV (enc:α->Value) (g:Nat) (cb:Array Value) (blk off cap a b n:Nat) (d0 d:Array α) (w0 w:World)
    (R:Row1 enc w0 blk off d0) (hs:d0.size=d.size) (S:SW enc w0 blk off d w) (ha:a+n<=d.size) (hb:b+n<=d.size) (hsz:d.size < 4611686018427387904) :
    Calls Tryz.prog 192 #[.slice (some ⟨blk,off,none⟩) d.size cap,.int .i64 a,.int .i64 b,.int .i64 n,.func (.func g) #[] cb] w fun e w'=>e = .returned (.tuple #[])/\SW enc w0 blk off (nM d a b n) w':=by
  have mixed:Tryz.prog.follows .mixedOrders=true:=(by kernel_rfl);have hcl0:=R.hO.cells;simp only [Value.cells] at hcl0;have hst:=R.hO.store Tryz.prog;have S0:Aside (SW enc w0 blk off d w):=S;clear S;go_enter Tryz.func192,Tryz.ntmps192;go_wp2;go_loopg [10] n (fun kx s10 wr=>∃ (i:Nat),s10 = .int .i64 i/\i<=n/\n - i<=kx/\Aside (SW enc w0 blk off (nM d a b i) wr))
  case atStart=>exact ⟨0,rfl,by omega,by omega,S0⟩
  case round =>
    clear S0;obtain ⟨i,rfl,hin,hkx,S1⟩:=hrel;have hds:(nM d a b i).size=d.size:=lZ _ _ _ _;obtain ⟨dk,hdk⟩:∃ dk,dk=nM d a b i:=⟨_,rfl⟩;rw [<- hdk] at S1 hds;by_cases hlt:(i:Int) < (n:Int)
    . go_wp2_with fail;obtain ⟨iN,hiN⟩:∃ q,q=a+i:=⟨_,rfl⟩;obtain ⟨jN,hjN⟩:∃ q,q=b+i:=⟨_,rfl⟩;have ea:((a:Int)+(i:Int)).toNat=iN:=(by omega);have pa:(0:Int)<=(a:Int)+(i:Int):=(by omega);have ba:(a:Int)+(i:Int) < (d.size:Int):=(by omega);have ra:IntKind.i64.wrap ((a:Int)+(i:Int))=(a:Int)+(i:Int):=(by rw [IntKind.wrap_i64];omega);have ec:((b:Int)+(i:Int)).toNat=jN:=(by omega);have pc:(0:Int)<=(b:Int)+(i:Int):=(by omega);have bc:(b:Int)+(i:Int) < (d.size:Int):=(by omega);have rc:IntKind.i64.wrap ((b:Int)+(i:Int))=(b:Int)+(i:Int):=(by rw [IntKind.wrap_i64];omega);obtain ⟨x,hx⟩:∃ x,x=dk[a+i]! := ⟨_,rfl⟩;obtain ⟨y,hy⟩:∃ x,x=dk[b+i]! := ⟨_,rfl⟩;have S2:Aside (SW enc w0 blk off (swp dk (a+i) (b+i)) ((wr.setCell ⟨blk,off+iN,none⟩ (enc y)).setCell ⟨blk,off+jN,none⟩ (enc x)).drew):=(by rw [hiN,hjN,hx,hy];exact S1.out.swapped R (a+i) (b+i) (by omega) (by omega));have c1a:=S1.out.c1 R (by omega) (a+i) (by omega);have c1b:=S1.out.c1 R (by omega) (b+i) (by omega);have f1a:=S1.out.f1 R (by omega) (a+i) (by omega);have f1b:=S1.out.f1 R (by omega) (b+i) (by omega);obtain ⟨u,c1c⟩:=S1.out.c2 R (by omega) (a+i) (b+i) (by omega) (by omega) (enc y);rw [<- hjN,<- hiN] at c1c;rw [<- hx,<- hiN] at c1a;rw [<- hy,<- hjN] at c1b;rw [<- hiN] at f1a;rw [<- hjN] at f1b;clear S1 hx hy hiN hjN;go_wp2_with fail;go_big_region_o
      clear c1a c1b c1c f1a f1b;generalize ((wr.setCell ⟨blk,off+iN,none⟩ (enc y)).setCell ⟨blk,off+jN,none⟩ (enc x)).drew=w2 at S2 ⊢;clear ea ec;go_wp2;go_roundg (n - (i+1))
      case measure=>omega
      case rel=>exact ⟨i+1,by simp,by omega,Nat.le_refl _,by rw [nM,<- hdk];exact S2⟩
    . go_wp2;go_end0
      have:i=n:=(by omega);subst this;exact ⟨rfl,by rw [<- hdk];exact S1.out⟩
set_option maxHeartbeats 4000000 in
set_option maxRecDepth 1000000 in
theorem awg (enc:α->Value) (g:Nat) (cb:Array Value) (blk off cap a m b:Nat) (d0 d:Array α) (w0 w:World)
    (R:Row1 enc w0 blk off d0) (hs:d0.size=d.size) (S:SW enc w0 blk off d w) (ha:a < m) (hm:m < b) (hb:b<=d.size) (hsz:d.size < 4611686018427387904) :
    Calls Tryz.prog 191 #[.slice (some ⟨blk,off,none⟩) d.size cap,.int .i64 a,.int .i64 m,.int .i64 b,.func (.func g) #[] cb] w fun e w'=>e = .returned (.tuple #[])/\SW enc w0 blk off (oq m (m - a+(b - m)) d (m - a) (b - m)) w':=by
  have mixed:Tryz.prog.follows .mixedOrders=true:=(by kernel_rfl);have hcl0:=R.hO.cells;simp only [Value.cells] at hcl0;have hst:=R.hO.store Tryz.prog;have S0:Aside (SW enc w0 blk off d w):=S;clear S;have eSR:∀ args w,(callFunc 192 args).run Tryz.prog w = .ok (.enter 192 args) w:=enters_of Tryz.func192 (by kernel_rfl) rfl;have e1:((m - a:Nat):Int)=(m:Int) - (a:Int):=(by omega);have e2:((b - m:Nat):Int)=(b:Int) - (m:Int):=(by omega);have n1:IntKind.i64.wrap ((m:Int) - (a:Int))=(m:Int) - (a:Int):=(by rw [IntKind.wrap_i64];omega);have n2:IntKind.i64.wrap ((b:Int) - (m:Int))=(b:Int) - (m:Int):=(by rw [IntKind.wrap_i64];omega);go_enter Tryz.func191,Tryz.ntmps191;go_wp2
  go_loopg [10,11] (m - a+(b - m)) (fun kx s10 s11 wr=>∃ (i j:Nat) (dk:Array α),s10 = .int .i64 i/\s11 = .int .i64 j/\1<=i/\1<=j/\i<=m/\m+j<=d.size/\i+j<=kx+1/\dk.size=d.size/\Aside (SW enc w0 blk off dk wr) /\
    Hid (oq m kx dk i j=oq m (m - a+(b - m)) d (m - a) (b - m)))
  case atStart=>exact ⟨m - a,b - m,d,by simp [e1],by simp [e2],by omega,by omega,by omega,by omega,by omega,rfl,S0,rfl⟩
  case round =>
    clear S0 n1 n2 e1 e2;obtain ⟨i,j,dk,rfl,rfl,hi,hj,him,hmj,hkx,hds,S1,HE⟩:=hrel;have zmi:((m - i:Nat):Int)=(m:Int) - (i:Int):=(by omega);have wmi:IntKind.i64.wrap ((m:Int) - (i:Int))=(m:Int) - (i:Int):=(by rw [IntKind.wrap_i64];omega);by_cases hij:i=j
    . subst hij;have hneq:¬ ((i:Int)≠(i:Int)):=(by omega);have hcall:=aeV enc g cb blk off cap (m - i) m i d0 dk w0 wr R (by omega) S1.out (by omega) (by omega) (by omega);rw [hds,zmi] at hcall;have hend:oq m gk dk i i=nM dk (m - i) m i:=by
        cases gk with
        | zero=>rfl
        | succ f=>rw [oq,if_pos rfl]
      clear S1;go_wp2_with (go_at_fn 192;refine hcall.mono ?_;rintro e w1 ⟨rfl,S3⟩);go_end0
      refine ⟨rfl,?_⟩;rw [<- HE.out,hend];exact S3
    . have hneq:¬ ((i:Int)=(j:Int)):=(by omega);cases gk with
      | zero=>omega
      | succ f =>
        by_cases hlt:j < i
        . have hgt:(j:Int) < (i:Int):=(by omega);have zij:((i - j:Nat):Int)=(i:Int) - (j:Int):=(by omega);have hcall:=aeV enc g cb blk off cap (m - i) m j d0 dk w0 wr R (by omega) S1.out (by omega) (by omega) (by omega);rw [hds,zmi] at hcall;have hstep:oq m (f+1) dk i j=oq m f (nM dk (m - i) m j) (i - j) j:=(by rw [oq,if_neg hij,if_pos hlt]);rw [hstep] at HE;clear S1;go_wp2_with (go_at_fn 192;refine hcall.mono ?_;rintro e w1 ⟨rfl,S3⟩);go_roundg f
          case measure=>omega
          case rel=>exact ⟨i - j,j,_,by first|rw [zij]|simp [zij],rfl,by omega,hj,by omega,hmj,by omega,by rw [lZ];exact hds,S3,HE⟩
        . have hgt:¬ (j:Int) < (i:Int):=(by omega);have zji:((j - i:Nat):Int)=(j:Int) - (i:Int):=(by omega);have wmj:IntKind.i64.wrap ((m:Int)+(j:Int))=(m:Int)+(j:Int):=(by rw [IntKind.wrap_i64];omega);have aJg:IntKind.i64.wrap ((m:Int)+(j:Int) - (i:Int))=(m:Int)+(j:Int) - (i:Int):=(by rw [IntKind.wrap_i64];omega);have aDV:((m+j - i:Nat):Int)=(m:Int)+(j:Int) - (i:Int):=(by omega);have hcall:=aeV enc g cb blk off cap (m - i) (m+j - i) i d0 dk w0 wr R (by omega) S1.out (by omega) (by omega) (by omega);rw [hds,zmi,aDV] at hcall;have hstep:oq m (f+1) dk i j=oq m f (nM dk (m - i) (m+j - i) i) i (j - i):=(by rw [oq,if_neg hij,if_neg hlt]);rw [hstep] at HE;clear S1;go_wp2_with (go_at_fn 192;refine hcall.mono ?_;rintro e w1 ⟨rfl,S3⟩);go_roundg f
          case measure=>omega
          case rel=>exact ⟨i,j - i,_,rfl,by first|rw [zji]|simp [zji],hi,by omega,him,by omega,by omega,by rw [lZ];exact hds,S3,HE⟩
end Go.Proofs.YtpondkggmcmpfaaGreatDoor.S
namespace Go.Proofs.YtpondkggmcmpfaaGreatDoor.QA
open Go.Proofs.YtpondkggmcmpfaaGreatDoor.T
open Go.RowKit Go.Proofs.YtpondkggmcmpfaaGreatDoorW.PrintWords Go.Proofs.YtpondkggmcmpfaaGreatDoorW.PrintLast Go.Proofs.YtpondkggmcmpfaaGreatDoorW.PrintMore
attribute [local go_sem] dV dN dO fA fB
set_option linter.unusedVariables false
set_option linter.unusedSimpArgs false
def kX.f (a0 a1 a2:Int):Option (Bool):=if a0>=1 then (if a0<=65536 then (if a1>=1 then (if a1<=65536 then (if a2=1 then (some (decide ((wrap64 ((wrap64 (a0*a1))*a2))<=268435456))) else (if a2=3 then (some (decide ((wrap64 ((wrap64 (a0*a1))*a2))<=268435456))) else (some false))) else (some false)) else (some false)) else (some false)) else (some false)
theorem kX.calls (a0 a1 a2:Int) (r:Bool) (w:World) (h:kX.f a0 a1 a2=some r) :
  Calls Tryz.prog 54 #[.int .i64 a0,.int .i64 a1,.int .i64 a2] w fun e w'=>e = .returned (.bool r)/\dA w w':=by
 have H:=h;clear h;unfold kX.f at H;by_cases c4:a0>=1
 ·rw [if_pos c4] at H;have fH:=decide_eq_true c4;clear c4;by_cases c5:a0<=65536
  ·rw [if_pos c5] at H;have gJ:=decide_eq_true c5;clear c5;by_cases c6:a1>=1
   ·rw [if_pos c6] at H;have gI:=decide_eq_true c6;clear c6;by_cases c7:a1<=65536
    ·rw [if_pos c7] at H;have jw:=decide_eq_true c7;clear c7;by_cases c8:a2=1
     ·rw [if_pos c8] at H;have qj:(a2 == 1)=true:=beq_iff_eq.mpr c8;have abZ:(a2 != 1)=false:=bne_eq_false_iff_eq.mpr c8;clear c8;obtain rfl:=Option.some.inj H;go_enter Tryz.func54,Tryz.ntmps54;go_wp2;go_ret;exact ⟨by first|rfl|(simp;done)|(simp [*];done)|(simp [Int.tdiv_eq_ediv_of_nonneg (show (0:Int)<=268435456 by decide)];done),zW⟩
     ·rw [if_neg c8] at H;have qj:(a2 == 1)=false:=beq_eq_false_iff_ne.mpr c8;have abZ:(a2 != 1)=true:=bne_iff_ne.mpr c8;by_cases c9:a2=3
      ·rw [if_pos c9] at H;have o8:(a2 == 3)=true:=beq_iff_eq.mpr c9;have adG:(a2 != 3)=false:=bne_eq_false_iff_eq.mpr c9;clear c9;obtain rfl:=Option.some.inj H;go_enter Tryz.func54,Tryz.ntmps54;go_wp2;go_ret;exact ⟨by first|rfl|(simp;done)|(simp [*];done)|(simp [Int.tdiv_eq_ediv_of_nonneg (show (0:Int)<=268435456 by decide)];done),zW⟩
      ·rw [if_neg c9] at H;have o8:(a2 == 3)=false:=beq_eq_false_iff_ne.mpr c9;have adG:(a2 != 3)=true:=bne_iff_ne.mpr c9;obtain rfl:=Option.some.inj H;go_enter Tryz.func54,Tryz.ntmps54;go_wp2;go_ret;exact ⟨by first|rfl|(simp;done)|(simp [*];done)|(simp [Int.tdiv_eq_ediv_of_nonneg (show (0:Int)<=268435456 by decide)];done),zW⟩
    ·rw [if_neg c7] at H;have jw:=decide_eq_false c7;clear c7;obtain rfl:=Option.some.inj H;go_enter Tryz.func54,Tryz.ntmps54;go_wp2;go_ret;exact ⟨by first|rfl|(simp;done)|(simp [*];done)|(simp [Int.tdiv_eq_ediv_of_nonneg (show (0:Int)<=268435456 by decide)];done),zW⟩
   ·rw [if_neg c6] at H;have gI:=decide_eq_false c6;clear c6;obtain rfl:=Option.some.inj H;go_enter Tryz.func54,Tryz.ntmps54;go_wp2;go_ret;exact ⟨by first|rfl|(simp;done)|(simp [*];done)|(simp [Int.tdiv_eq_ediv_of_nonneg (show (0:Int)<=268435456 by decide)];done),zW⟩
  ·rw [if_neg c5] at H;have gJ:=decide_eq_false c5;clear c5;obtain rfl:=Option.some.inj H;go_enter Tryz.func54,Tryz.ntmps54;go_wp2;go_ret;exact ⟨by first|rfl|(simp;done)|(simp [*];done)|(simp [Int.tdiv_eq_ediv_of_nonneg (show (0:Int)<=268435456 by decide)];done),zW⟩
 ·rw [if_neg c4] at H;have fH:=decide_eq_false c4;clear c4;obtain rfl:=Option.some.inj H;go_enter Tryz.func54,Tryz.ntmps54;go_wp2;go_ret;exact ⟨by first|rfl|(simp;done)|(simp [*];done)|(simp [Int.tdiv_eq_ediv_of_nonneg (show (0:Int)<=268435456 by decide)];done),zW⟩
def adw.f (aU bf bY dB:Int) (bZ jJ:List Int) (lY lD lN a1 a2:Int):Option (Int × Int):=if aU=3 then (some (lD,lN)) else (some (a1,a2))
theorem adw.calls (aU bf bY dB:Int) (iF:Option Addr) (iG:Nat) (bZ:List Int) (qc:Option Addr) (qg:Nat) (jJ:List Int) (lY lD lN a1 a2 r1 r2:Int) (w:World) (oG:Kd.C (Kd.int .i64) w iF bZ.length bZ) (oH:bZ.length<=iG) (aby:Kd.C (Kd.int .i64) w qc jJ.length jJ) (abz:jJ.length<=qg) (h:adw.f aU bf bY dB bZ jJ lY lD lN a1 a2=some (r1,r2)) :
  Calls Tryz.prog 55 #[.agg #[.int .i64 aU,.int .i64 bf,.int .i64 bY,.int .i64 dB,.slice iF bZ.length iG,.slice qc jJ.length qg,.int .i64 lY,.int .i64 lD,.int .i64 lN],.int .i64 a1,.int .i64 a2] w fun e w'=>e = .returned (.tuple #[.int .i64 r1,.int .i64 r2])/\Below w.heap.size w w':=by
 have ayK:=Tryz.underlying47;have um:=aj.mk oG;have uK:=aj.mk oH;clear oG oH;have am1:=aj.mk aby
 have am2:=aj.mk abz;clear aby abz;have HB:=aj.mk (Below.refl w.heap.size w);have H:=h;clear h;unfold adw.f at H;by_cases c4:aU=3
 ·rw [if_pos c4] at H;have fH:(aU == 3)=true:=beq_iff_eq.mpr c4;have aaS:(aU != 3)=false:=bne_eq_false_iff_eq.mpr c4;clear c4;simp only [Option.some.injEq,Prod.mk.injEq] at H;obtain ⟨rfl,rfl⟩:=H;go_enter Tryz.func55,Tryz.ntmps55;go_wp2_with (first|((with_reducible refine aZ (N:=3) rfl ?_);refine aX zR (N:=3) zR (cs := #[.int .i64 aU,.int .i64 bf,.int .i64 bY,.int .i64 dB,.slice iF bZ.length iG,.slice qc jJ.length qg,.int .i64 lY,.int .i64 lD,.int .i64 lN]) (t:=47) zG ?_;intro akO hg w5 hbox hb;obtain ⟨HB,vK,akP,akQ⟩:=zA4 (ak zB hb) hbox (zg hg zB) (zg hg zB);clear hb hbox hg;obtain ⟨_,_,_,_,_,_,_,_,_⟩:=zC9 vK.out;obtain ⟨_,_,_,_,_,_,_,_,_⟩:=zF9 vK.out));repeat (go_quiet (first|((with_reducible refine aZ (N:=3) rfl ?_);refine aX zR (N:=3) zR (cs := #[.int .i64 aU,.int .i64 bf,.int .i64 bY,.int .i64 dB,.slice iF bZ.length iG,.slice qc jJ.length qg,.int .i64 lY,.int .i64 lD,.int .i64 lN]) (t:=47) zG ?_;intro akO hg w5 hbox hb;obtain ⟨HB,vK,akP,akQ⟩:=zA4 (ak zB hb) hbox (zg hg zB) (zg hg zB);clear hb hbox hg;obtain ⟨_,_,_,_,_,_,_,_,_⟩:=zC9 vK.out;obtain ⟨_,_,_,_,_,_,_,_,_⟩:=zF9 vK.out));try go_wp2_with (first|((with_reducible refine aZ (N:=3) rfl ?_);refine aX zR (N:=3) zR (cs := #[.int .i64 aU,.int .i64 bf,.int .i64 bY,.int .i64 dB,.slice iF bZ.length iG,.slice qc jJ.length qg,.int .i64 lY,.int .i64 lD,.int .i64 lN]) (t:=47) zG ?_;intro akO hg w5 hbox hb;obtain ⟨HB,vK,akP,akQ⟩:=zA4 (ak zB hb) hbox (zg hg zB) (zg hg zB);clear hb hbox hg;obtain ⟨_,_,_,_,_,_,_,_,_⟩:=zC9 vK.out;obtain ⟨_,_,_,_,_,_,_,_,_⟩:=zF9 vK.out)))
  go_ret2;exact ⟨zS,zB⟩
 ·rw [if_neg c4] at H;have fH:(aU == 3)=false:=beq_eq_false_iff_ne.mpr c4;have aaS:(aU != 3)=true:=bne_iff_ne.mpr c4;simp only [Option.some.injEq,Prod.mk.injEq] at H;obtain ⟨rfl,rfl⟩:=H;go_enter Tryz.func55,Tryz.ntmps55;go_wp2_with (first|((with_reducible refine aZ (N:=3) rfl ?_);refine aX zR (N:=3) zR (cs := #[.int .i64 aU,.int .i64 bf,.int .i64 bY,.int .i64 dB,.slice iF bZ.length iG,.slice qc jJ.length qg,.int .i64 lY,.int .i64 lD,.int .i64 lN]) (t:=47) zG ?_;intro akO hg w7 hbox hb;obtain ⟨HB,vK,akP,akQ⟩:=zA4 (ak zB hb) hbox (zg hg zB) (zg hg zB);clear hb hbox hg;obtain ⟨_,_,_,_,_,_,_,_,_⟩:=zC9 vK.out;obtain ⟨_,_,_,_,_,_,_,_,_⟩:=zF9 vK.out));repeat (go_quiet (first|((with_reducible refine aZ (N:=3) rfl ?_);refine aX zR (N:=3) zR (cs := #[.int .i64 aU,.int .i64 bf,.int .i64 bY,.int .i64 dB,.slice iF bZ.length iG,.slice qc jJ.length qg,.int .i64 lY,.int .i64 lD,.int .i64 lN]) (t:=47) zG ?_;intro akO hg w7 hbox hb;obtain ⟨HB,vK,akP,akQ⟩:=zA4 (ak zB hb) hbox (zg hg zB) (zg hg zB);clear hb hbox hg;obtain ⟨_,_,_,_,_,_,_,_,_⟩:=zC9 vK.out;obtain ⟨_,_,_,_,_,_,_,_,_⟩:=zF9 vK.out));try go_wp2_with (first|((with_reducible refine aZ (N:=3) rfl ?_);refine aX zR (N:=3) zR (cs := #[.int .i64 aU,.int .i64 bf,.int .i64 bY,.int .i64 dB,.slice iF bZ.length iG,.slice qc jJ.length qg,.int .i64 lY,.int .i64 lD,.int .i64 lN]) (t:=47) zG ?_;intro akO hg w7 hbox hb;obtain ⟨HB,vK,akP,akQ⟩:=zA4 (ak zB hb) hbox (zg hg zB) (zg hg zB);clear hb hbox hg;obtain ⟨_,_,_,_,_,_,_,_,_⟩:=zC9 vK.out;obtain ⟨_,_,_,_,_,_,_,_,_⟩:=zF9 vK.out)))
  go_ret2;exact ⟨zS,zB⟩
def fE.j0:Nat->Int->Int->Int->Bool->Option (Bool)
 | 0,_,_,_,_=>none
 | k+1,x0,x1,x2,x20=>if x20=true then (some false) else (if x2=1 then (if x2=0 then (none) else (some (decide ((wrap64 (x0*x1))<=(wrap64 ((268435456:Int) / x2)))))) else (if x2=3 then (if x2=0 then (none) else (some (decide ((wrap64 (x0*x1))<=(wrap64 ((268435456:Int) / x2)))))) else (some false)))
def fE.f (k:Nat) (a0 a1 a2:Int):Option (Bool):=if a0 < 1 then (fE.j0 k a0 a1 a2 true) else (if a0 > 65536 then (fE.j0 k a0 a1 a2 true) else (if a1 < 1 then (fE.j0 k a0 a1 a2 true) else (fE.j0 k a0 a1 a2 (decide (a1 > 65536)))))
theorem fE.calls (k:Nat) (a0 a1 a2:Int) (r:Bool) (w:World) (h:fE.f k a0 a1 a2=some r) :
  Calls Tryz.prog 56 #[.int .i64 a0,.int .i64 a1,.int .i64 a2] w fun e w'=>e = .returned (.bool r)/\dA w w':=by
 have H:=h;clear h;unfold fE.f at H;have HC4:=aj.mk H;clear H;go_enter Tryz.func56,Tryz.ntmps56;go_upto_region 1 with (fail);go_cut [20] (fun v20 wc=>∃ (kq:Nat) (anG:Bool),v20 = .bool anG/\aj (fE.j0 kq a0 a1 a2 anG=some r)/\aj (kq<=k)/\dA w wc)
 case first =>
  have H:=HC4.out;clear HC4;by_cases c5:a0 < 1
  ·rw [if_pos c5] at H;have gJ:=decide_eq_true c5;clear c5
   (first|rw [gJ]|(simp only [bP,bU];rw [gJ])|skip)
   have H':=aj.mk H;clear H;go_wp2;go_meet
   case rel=>exact ⟨_,(true),zT,H',⟨by first|omega|exact Nat.le_refl _⟩,zW⟩
  ·rw [if_neg c5] at H;have gJ:=decide_eq_false c5;clear c5
   (first|rw [gJ]|(simp only [bP,bU];rw [gJ])|skip)
   by_cases c6:a0 > 65536
   ·rw [if_pos c6] at H;have gI:=decide_eq_true c6;clear c6;have H':=aj.mk H;clear H;go_wp2;go_meet
    case rel=>exact ⟨_,(true),zT,H',⟨by first|omega|exact Nat.le_refl _⟩,zW⟩
   ·rw [if_neg c6] at H;have gI:=decide_eq_false c6;clear c6;by_cases c7:a1 < 1
    ·rw [if_pos c7] at H;have jw:=decide_eq_true c7;clear c7;have H':=aj.mk H;clear H;go_wp2;go_meet
     case rel=>exact ⟨_,(true),zT,H',⟨by first|omega|exact Nat.le_refl _⟩,zW⟩
    ·rw [if_neg c7] at H;have jw:=decide_eq_false c7;clear c7;have H':=aj.mk H;clear H;go_wp2;go_meet
     case rel=>exact ⟨_,(decide (a1 > 65536)),zT,H',⟨by first|omega|exact Nat.le_refl _⟩,zW⟩
 case rest =>
  clear HC4;obtain ⟨kq,anG,rfl,HA,HJ3,⟨mc3,rfl⟩⟩:=hcut;cases kq with
  | zero=>exact absurd HA.out (by simp [fE.j0])
  | succ kj3 =>
   have H:=HA.out;clear HA;simp only [fE.j0] at H;by_cases c8:anG=true
   ·subst c8;rw [if_pos rfl] at H;(try dsimp only at H);obtain rfl:=Option.some.inj H;go_wp2;go_ret;exact ⟨by first|rfl|(simp;done)|(simp [*];done)|(simp [Int.tdiv_eq_ediv_of_nonneg (show (0:Int)<=268435456 by decide)];done),zW⟩
   ·replace c8:=Bool.eq_false_iff.mpr c8;subst c8;rw [if_neg (show ¬ (false=true) by decide)] at H;(try dsimp only at H);by_cases c9:a2=1
    ·rw [if_pos c9] at H;have o8:(a2 == 1)=true:=beq_iff_eq.mpr c9;have adG:(a2 != 1)=false:=bne_eq_false_iff_eq.mpr c9;clear c9;by_cases c10:a2=0
     ·rw [if_pos c10] at H;exact absurd H (by simp)
     ·rw [if_neg c10] at H;have l9:(a2 == 0)=false:=beq_eq_false_iff_ne.mpr c10;have aj0:(a2 != 0)=true:=bne_iff_ne.mpr c10;obtain rfl:=Option.some.inj H;go_wp2;go_ret;exact ⟨by first|rfl|(simp;done)|(simp [*];done)|(simp [Int.tdiv_eq_ediv_of_nonneg (show (0:Int)<=268435456 by decide)];done),zW⟩
    ·rw [if_neg c9] at H;have o8:(a2 == 1)=false:=beq_eq_false_iff_ne.mpr c9;have adG:(a2 != 1)=true:=bne_iff_ne.mpr c9;by_cases c11:a2=3
     ·rw [if_pos c11] at H;have jy:(a2 == 3)=true:=beq_iff_eq.mpr c11;have aac:(a2 != 3)=false:=bne_eq_false_iff_eq.mpr c11;clear c11;by_cases c12:a2=0
      ·rw [if_pos c12] at H;exact absurd H (by simp)
      ·rw [if_neg c12] at H;have yU:(a2 == 0)=false:=beq_eq_false_iff_ne.mpr c12;have anu:(a2 != 0)=true:=bne_iff_ne.mpr c12;obtain rfl:=Option.some.inj H;go_wp2;go_ret;exact ⟨by first|rfl|(simp;done)|(simp [*];done)|(simp [Int.tdiv_eq_ediv_of_nonneg (show (0:Int)<=268435456 by decide)];done),zW⟩
     ·rw [if_neg c11] at H;have jy:(a2 == 3)=false:=beq_eq_false_iff_ne.mpr c11;have aac:(a2 != 3)=true:=bne_iff_ne.mpr c11;obtain rfl:=Option.some.inj H;go_wp2;go_ret;exact ⟨by first|rfl|(simp;done)|(simp [*];done)|(simp [Int.tdiv_eq_ediv_of_nonneg (show (0:Int)<=268435456 by decide)];done),zW⟩
def bQ.f (a0:Int):Option (Bool):=if a0>=1 then (some (decide (a0<=65536))) else (some false)
theorem bQ.calls (a0:Int) (r:Bool) (w:World) (h:bQ.f a0=some r) :
  Calls Tryz.prog 92 #[.int .i64 a0] w fun e w'=>e = .returned (.bool r)/\dA w w':=by
 have H:=h;clear h;unfold bQ.f at H;by_cases c2:a0>=1
 ·rw [if_pos c2] at H;have oM:=decide_eq_true c2;clear c2;obtain rfl:=Option.some.inj H;go_enter Tryz.func92,Tryz.ntmps92;go_wp2;go_ret;exact ⟨by first|rfl|(simp;done)|(simp [*];done)|(simp [Int.tdiv_eq_ediv_of_nonneg (show (0:Int)<=268435456 by decide)];done),zW⟩
 ·rw [if_neg c2] at H;have oM:=decide_eq_false c2;clear c2;obtain rfl:=Option.some.inj H;go_enter Tryz.func92,Tryz.ntmps92;go_wp2;go_ret;exact ⟨by first|rfl|(simp;done)|(simp [*];done)|(simp [Int.tdiv_eq_ediv_of_nonneg (show (0:Int)<=268435456 by decide)];done),zW⟩
def jq.f (a0:Int):Option (Bool):=if a0>=1 then (some (decide (a0<=65536))) else (some false)
theorem jq.calls (a0:Int) (r:Bool) (w:World) (h:jq.f a0=some r) :
  Calls Tryz.prog 113 #[.int .i64 a0] w fun e w'=>e = .returned (.bool r)/\dA w w':=by
 have H:=h;clear h;unfold jq.f at H;by_cases c2:a0>=1
 ·rw [if_pos c2] at H;have oM:=decide_eq_true c2;clear c2;obtain rfl:=Option.some.inj H;go_enter Tryz.func113,Tryz.ntmps113;go_wp2;go_ret;exact ⟨by first|rfl|(simp;done)|(simp [*];done)|(simp [Int.tdiv_eq_ediv_of_nonneg (show (0:Int)<=268435456 by decide)];done),zW⟩
 ·rw [if_neg c2] at H;have oM:=decide_eq_false c2;clear c2;obtain rfl:=Option.some.inj H;go_enter Tryz.func113,Tryz.ntmps113;go_wp2;go_ret;exact ⟨by first|rfl|(simp;done)|(simp [*];done)|(simp [Int.tdiv_eq_ediv_of_nonneg (show (0:Int)<=268435456 by decide)];done),zW⟩
def qo.f (a0 a1 a2:Int):Option (Int):=some (mx a1 (mn a0 a2))
theorem qo.calls (a0 a1 a2 r:Int) (w:World) (h:qo.f a0 a1 a2=some r) :
  Calls Tryz.prog 99 #[.int .i64 a0,.int .i64 a1,.int .i64 a2] w fun e w'=>e = .returned (.int .i64 r)/\Below w.heap.size w w':=by
 have HB:=aj.mk (Below.refl w.heap.size w);have H:=h;clear h;unfold qo.f at H;obtain ⟨ji4,qY⟩:∃ j_:Int,(mn a0 a2)=j_:=⟨_,rfl⟩;replace H:(some (mx a1 (ji4)))=some r:=(by first|(rw [qY] at H;exact H)|(simp only [qY] at H ⊢;exact H));have axw:(if a2 < a0 then a2 else a0)=ji4:=qY;obtain ⟨ji5,aay⟩:∃ j_:Int,(mx a1 (ji4))=j_:=⟨_,rfl⟩;replace H:(some ji5)=some r:=(by first|(rw [aay] at H;exact H)|(simp only [aay] at H ⊢;exact H));have aCH:(if a1 < (ji4) then (ji4) else a1)=ji5:=aay;obtain rfl:=Option.some.inj H;go_enter Tryz.func99,Tryz.ntmps99;go_wp2;go_ret;exact ⟨by first|rfl|(simp [bJ,bK] <;> rfl)|(simp only [<- qY,<- aay];first|rfl|(simp [bJ,bK] <;> rfl))|(simp [*,bJ,bK] <;> rfl),zB⟩
def oJ.j0:Nat->Int->Int->Int->Bool->Option (Int)
 | 0,_,_,_,_=>none
 | k+1,x0,x1,x2,x13=>if x13=true then (some 0) else (if x0=0 then ((qo.f x1 0 (wrap64 (x2 - 1))).bind fun awh=>(some awh)) else (if x0=1 then ((kD.f k x1 (wrap64 (2*x2))).bind fun aeW=>(some (mn aeW (wrap64 ((wrap64 ((wrap64 (2*x2)) - 1)) - aeW))))) else (if x0=2 then ((kD.f k x1 x2).bind fun awi=>(some awi)) else (some 0))))
def oJ.f (k:Nat) (a0 a1 a2:Int):Option (Int):=if a2 < 1 then (oJ.j0 k a0 a1 a2 true) else (oJ.j0 k a0 a1 a2 (decide (a2 > 65536)))
theorem oJ.calls (k:Nat) (a0 a1 a2 r:Int) (w:World) (h:oJ.f k a0 a1 a2=some r) :
  Calls Tryz.prog 80 #[.int .i64 a0,.int .i64 a1,.int .i64 a2] w fun e w'=>e = .returned (.int .i64 r)/\Below w.heap.size w w':=by
 have HB:=aj.mk (Below.refl w.heap.size w);have H:=h;clear h;unfold oJ.f at H;have HC4:=aj.mk H;clear H;go_enter Tryz.func80,Tryz.ntmps80;go_upto_region 1 with (fail);go_cut [13] (fun v13 wc=>∃ (kq:Nat) (ac9:Bool),v13 = .bool ac9/\aj (oJ.j0 kq a0 a1 a2 ac9=some r)/\aj (kq<=k)/\aj (Below w.heap.size w wc))
 case first =>
  have H:=HC4.out;clear HC4;by_cases c5:a2 < 1
  ·rw [if_pos c5] at H;have gJ:=decide_eq_true c5;clear c5
   (first|rw [gJ]|(simp only [bP,bU];rw [gJ])|skip)
   have H':=aj.mk H;clear H;go_wp2;go_meet
   case rel=>exact ⟨_,(true),zT,H',⟨by first|omega|exact Nat.le_refl _⟩,⟨zB⟩⟩
  ·rw [if_neg c5] at H;have gJ:=decide_eq_false c5;clear c5
   (first|rw [gJ]|(simp only [bP,bU];rw [gJ])|skip)
   have H':=aj.mk H;clear H;go_wp2;go_meet
   case rel=>exact ⟨_,(decide (a2 > 65536)),zT,H',⟨by first|omega|exact Nat.le_refl _⟩,⟨zB⟩⟩
 case rest =>
  clear HC4;obtain ⟨kq,ac9,rfl,HA,HJ3,HB⟩:=hcut;cases kq with
  | zero=>exact absurd HA.out (by simp [oJ.j0])
  | succ kj3 =>
   have H:=HA.out;clear HA;simp only [oJ.j0] at H;by_cases c6:ac9=true
   ·subst c6;rw [if_pos rfl] at H;(try dsimp only at H);obtain rfl:=Option.some.inj H;go_wp2;go_ret;exact ⟨zS,zB⟩
   ·replace c6:=Bool.eq_false_iff.mpr c6;subst c6;rw [if_neg (show ¬ (false=true) by decide)] at H;(try dsimp only at H);by_cases c7:a0=0
    ·rw [if_pos c7] at H;have jw:(a0 == 0)=true:=beq_iff_eq.mpr c7;have abY:(a0 != 0)=false:=bne_eq_false_iff_eq.mpr c7;clear c7;replace H:=zO H;obtain ⟨awh,A8,H⟩:=H;try dsimp only at H
     obtain rfl:=Option.some.inj H;go_wp2_with (first|((with_reducible refine ay (f:=99) rfl ?_);refine aH (some 20) rfl rfl Tryz.func99 (by kernel_rfl) rfl #[.int .i64 a1,.int .i64 0,.int .i64 (wrap64 (a2 - 1))] rfl zL ?_;(with_reducible refine (qo.calls a1 0 (wrap64 (a2 - 1)) awh _ A8.out).mono ?_);rintro e w9 ⟨rfl,hb⟩;refine ⟨_,rfl,?_⟩;replace HB:=aj.mk (ak zB hb);(try clear hb)));go_ret;exact ⟨zS,zB⟩
    ·rw [if_neg c7] at H;have jw:(a0 == 0)=false:=beq_eq_false_iff_ne.mpr c7;have abY:(a0 != 0)=true:=bne_iff_ne.mpr c7;by_cases c10:a0=1
     ·rw [if_pos c10] at H;have l9:(a0 == 1)=true:=beq_iff_eq.mpr c10;have aj0:(a0 != 1)=false:=bne_eq_false_iff_eq.mpr c10;clear c10;replace H:=zO H;obtain ⟨aeW,A11,H⟩:=H;try dsimp only at H
      obtain ⟨jZ,qQ⟩:∃ j_:Int,(mn aeW (wrap64 ((wrap64 ((wrap64 (2*a2)) - 1)) - aeW)))=j_:=⟨_,rfl⟩;replace H:(some jZ)=some r:=by first|(rw [qQ] at H;exact H)|(simp only [qQ] at H ⊢;exact H)
      (try rw [qQ] at A11)
      have azG:(if (wrap64 ((wrap64 ((wrap64 (2*a2)) - 1)) - aeW)) < aeW then (wrap64 ((wrap64 ((wrap64 (2*a2)) - 1)) - aeW)) else aeW)=jZ:=qQ;obtain rfl:=Option.some.inj H;go_wp2_with (first|((with_reducible refine ay (f:=103) rfl ?_);refine aH (some 26) rfl rfl Tryz.func103 (by kernel_rfl) rfl #[.int .i64 a1,.int .i64 (wrap64 (2*a2))] rfl zL ?_;(with_reducible refine (kD.calls kj3 a1 (wrap64 (2*a2)) aeW _ A11.out).mono ?_);rintro e w' ⟨rfl,⟨nd,rfl⟩⟩;refine ⟨_,rfl,?_⟩));go_ret;exact ⟨by first|rfl|(simp [bJ,bK] <;> rfl)|(simp only [<- qQ];first|rfl|(simp [bJ,bK] <;> rfl))|(simp [*,bJ,bK] <;> rfl),zB⟩
     ·rw [if_neg c10] at H;have l9:(a0 == 1)=false:=beq_eq_false_iff_ne.mpr c10;have aj0:(a0 != 1)=true:=bne_iff_ne.mpr c10;by_cases c13:a0=2
      ·rw [if_pos c13] at H;have aaf:(a0 == 2)=true:=beq_iff_eq.mpr c13;have akF:(a0 != 2)=false:=bne_eq_false_iff_eq.mpr c13;clear c13;replace H:=zO H;obtain ⟨awi,A14,H⟩:=H;try dsimp only at H
       obtain rfl:=Option.some.inj H;go_wp2_with (first|((with_reducible refine ay (f:=103) rfl ?_);refine aH (some 38) rfl rfl Tryz.func103 (by kernel_rfl) rfl #[.int .i64 a1,.int .i64 a2] rfl zL ?_;(with_reducible refine (kD.calls kj3 a1 a2 awi _ A14.out).mono ?_);rintro e w' ⟨rfl,⟨nd,rfl⟩⟩;refine ⟨_,rfl,?_⟩));go_ret;exact ⟨zS,zB⟩
      ·rw [if_neg c13] at H;have aaf:(a0 == 2)=false:=beq_eq_false_iff_ne.mpr c13;have akF:(a0 != 2)=true:=bne_iff_ne.mpr c13;obtain rfl:=Option.some.inj H;go_wp2;go_ret;exact ⟨zS,zB⟩
def wS.f (a0 a1:Int):Option (Int):=(mD.f a0 28).bind fun ajn=>((qo.f ajn 0 (mx 0 (mn a1 65535))).bind fun ajo=>(some (IntKind.u16.wrap (ajo))))
theorem wS.calls (a0 a1 r:Int) (w:World) (h:wS.f a0 a1=some r) :
  Calls Tryz.prog 74 #[.int .i64 a0,.int .i64 a1] w fun e w'=>e = .returned (.int .u16 r)/\Below w.heap.size w w':=by
 have HB:=aj.mk (Below.refl w.heap.size w);have H:=h;clear h;unfold wS.f at H;replace H:=zO H;obtain ⟨ajn,A3,H⟩:=H;try dsimp only at H
 obtain ⟨ji4,qY⟩:∃ j_:Int,(mn a1 65535)=j_:=⟨_,rfl⟩;replace H:((qo.f ajn 0 (mx 0 (ji4))).bind fun ajo=>(some (IntKind.u16.wrap (ajo))))=some r:=by first|(rw [qY] at H;exact H)|(simp only [qY] at H ⊢;exact H)
 (try rw [qY] at A3)
 (try (have aIv:ji4<=65535:=by (rw [<- qY];unfold mn;(repeat' split) <;> omega)))
 (try (have aIw:ji4<=64:=by omega))
 have axw:(if 65535 < a1 then 65535 else a1)=ji4:=qY;obtain ⟨ji5,aay⟩:∃ j_:Int,(mx 0 (ji4))=j_:=⟨_,rfl⟩;replace H:((qo.f ajn 0 (ji5)).bind fun ajo=>(some (IntKind.u16.wrap (ajo))))=some r:=by first|(rw [aay] at H;exact H)|(simp only [aay] at H ⊢;exact H)
 (try rw [aay] at A3)
 have aCH:(if 0 < (ji4) then (ji4) else 0)=ji5:=aay;replace H:=zO H;obtain ⟨ajo,A6,H⟩:=H;try dsimp only at H
 obtain rfl:=Option.some.inj H;go_enter Tryz.func74,Tryz.ntmps74;go_wp2_with (first|((with_reducible refine ay (f:=100) rfl ?_);refine aH (some 6) rfl rfl Tryz.func100 (by kernel_rfl) rfl #[.int .i64 a0,.int .i64 28] rfl zL ?_;(with_reducible refine (mD.calls a0 28 ajn _ A3.out).mono ?_);rintro e w' ⟨rfl,⟨nd,rfl⟩⟩;refine ⟨_,rfl,?_⟩)|((with_reducible refine ay (f:=99) rfl ?_);refine aH (some 10) rfl rfl Tryz.func99 (by kernel_rfl) rfl #[.int .i64 ajn,.int .i64 0,.int .i64 ji5] rfl (by (try simp only [List.map_toArray,List.map_cons,List.map_nil]);first|done|(simp only [aay];rfl)|(simp only [Int.tdiv_eq_ediv_of_nonneg aIx];rfl)|rfl|(simp only [List.length_drop,List.length_take];rfl)) ?_;(with_reducible refine (qo.calls ajn 0 ji5 ajo _ A6.out).mono ?_);rintro e w7 ⟨rfl,hb⟩;refine ⟨_,rfl,?_⟩;replace HB:=aj.mk (ak zB hb);(try clear hb)));go_ret;exact ⟨by first|rfl|(simp [bJ,bK] <;> rfl)|(simp only [<- qY,<- aay];first|rfl|(simp [bJ,bK] <;> rfl))|(simp [*,bJ,bK] <;> rfl),zB⟩
def eF.l0:Nat->List Int->Int->Int->Option (Int)
 | 0,_,_,_=>none
 | k+1,x0,x3,x4=>if x4 < (x0.length:Int) then (if 0<=x4 then (eF.l0 k x0 (mx x3 (rd x0 x4)) (wrap64 (x4+1))) else (none)) else (some x3)
def eF.f (k:Nat) (l0:List Int):Option (Int):=if (l0.length:Int) < 1 then (none) else (if 0 < (l0.length:Int) then (eF.l0 k l0 (rd l0 0) 1) else (none))
theorem eF.calls (k:Nat) (A0:Option Addr) (c0:Nat) (l0:List Int) (r:Int) (w:World) (hr0:Kd.C (Kd.int .u16) w A0 l0.length l0) (hc0:l0.length<=c0) (h:eF.f k l0=some r) :
  Calls Tryz.prog 98 #[.slice A0 l0.length c0] w fun e w'=>e = .returned (.int .u16 r)/\Below w.heap.size w w':=by
 have HR0:=aj.mk hr0;have HC0:=aj.mk hc0;clear hr0 hc0;have HB:=aj.mk (Below.refl w.heap.size w);have H:=h;clear h;unfold eF.f at H;by_cases c2:(l0.length:Int) < 1
 ·rw [if_pos c2] at H;exact absurd H (by simp)
 ·rw [if_neg c2] at H;have oM:=decide_eq_false c2;have aso:decide (l0.length < 1)=false:=decide_eq_false (by omega);clear c2;by_cases c3:0 < (l0.length:Int)
  ·rw [if_pos c3] at H;have fU:=decide_eq_true c3;have wO:decide (0 < l0.length)=true:=decide_eq_true (by omega);clear c3;have H':=aj.mk H;clear H;have awj:0<=(0:Int):=(by omega);have awk:0 < (l0.length:Int):=of_decide_eq_true (by first|(with_reducible assumption)|assumption);obtain ⟨aCI,aDW,aqz⟩:=Kd.iZ HR0.out 0 awj awk;cases aDW;have aIy:(0 < l0.length)=True:=eq_true (by omega)
   (try rw [show ((0:Int)).toNat=0 from rfl] at aqz)
   (try rw [Addr.add_zero'] at aqz)
   replace awj:=eq_true awj;replace awk:=eq_true awk;go_enter Tryz.func98,Tryz.ntmps98;go_wp2;go_loopg [3,4] k (fun kq v3 v4 w'=>∃ (qm:Int) (aco:Int),v3 = .int .u16 qm/\v4 = .int .i64 aco/\aj (eF.l0 kq l0 qm aco=some r)/\aj (kq<=k)/\aj (Below w.heap.size w w'))
   case atStart=>exact ⟨(rd l0 0),(1),zT,zT,H',⟨Nat.le_refl _⟩,⟨zB⟩⟩
   case round =>
    clear H';obtain ⟨qm,aco,rfl,rfl,HA,HK1,HB⟩:=hrel;cases gk with
    | zero=>exact absurd HA.out (by simp [eF.l0])
    | succ k1 =>
     have H:=HA.out;clear HA;simp only [eF.l0] at H;by_cases c4:aco < (l0.length:Int)
     ·rw [if_pos c4] at H;have fH:=decide_eq_true c4;clear c4;by_cases c5:0<=aco
      ·rw [if_pos c5] at H;have gJ:=decide_eq_true c5;clear c5;obtain ⟨ji6,vW⟩:∃ j_:Int,(mx qm (rd l0 aco))=j_:=⟨_,rfl⟩;replace H:(eF.l0 k1 l0 ji6 (wrap64 (aco+1)))=some r:=(by first|(rw [vW] at H;exact H)|(simp only [vW] at H ⊢;exact H));have awU:(if qm < (rd l0 aco) then (rd l0 aco) else qm)=ji6:=vW;have H':=aj.mk H;clear H;have awl:0<=(aco:Int):=of_decide_eq_true (by first|(with_reducible assumption)|assumption);have awm:aco < (l0.length:Int):=of_decide_eq_true (by first|(with_reducible assumption)|assumption);obtain ⟨aCJ,aDX,al6⟩:=Kd.iZ HR0.out aco awl awm;obtain rfl:aCI=aCJ:=(by injection aDX);replace al6:=(HB.out.cell (World.block_lt_of_cell? w _ al6)).trans al6;replace awl:=eq_true awl;replace awm:=eq_true awm;go_wp2;go_roundg k1
       case measure=>have:=HK1.out;omega
       case rel=>exact ⟨(ji6),(wrap64 (aco+1)),(by first|rfl|(simp;done)|(simp only [<- vW] <;> (first|rfl|simp))|(simp [*];done)),zT,H',⟨by have:=HK1.out;omega⟩,⟨zB⟩⟩
      ·rw [if_neg c5] at H;exact absurd H (by simp)
     ·rw [if_neg c4] at H;have fH:=decide_eq_false c4;clear c4;obtain rfl:=Option.some.inj H;go_wp2;go_ret;exact ⟨zS,zB⟩
  ·rw [if_neg c3] at H;exact absurd H (by simp)
end Go.Proofs.YtpondkggmcmpfaaGreatDoor.QA
