/- Joined by wip/tools/bundle.py out of: QAx54 QAx22 QAx23 QAx24 QAx25 QAx26 QAx27. -/
import Derived.Test.YtpondkggmcmpfaaGreatDoorBDirectNever0
import Derived.Test.YtpondkggmcmpfaaGreatDoorBDirectNever1
namespace Go.Proofs.YtpondkggmcmpfaaGreatDoor.QA
open Go.Proofs.YtpondkggmcmpfaaGreatDoor.T
open Go.RowKit Go.Proofs.YtpondkggmcmpfaaGreatDoorW.PrintWords Go.Proofs.YtpondkggmcmpfaaGreatDoorW.PrintLast Go.Proofs.YtpondkggmcmpfaaGreatDoorW.PrintMore
attribute [local go_sem] dV dP dQ fC fD
set_option linter.unusedVariables false
set_option linter.unusedSimpArgs false
def dJ.l0:Nat→List Int→List Int→Int→Int→Option (Bool)
 | 0,_,_,_,_=>none
 | k+1,x0,x1,x12,x13=>if x13 < x12 then (if 0≤x13 then (if x13 < (x0.length:Int) then (if x13 < (x1.length:Int) then (if (rd x0 x13)=(rd x1 x13) then (dJ.l0 k x0 x1 x12 (wrap64 (x13+1))) else (some false)) else (none)) else (none)) else (none)) else (some true)
def dJ.f (k:Nat) (l0 l1:List Int):Option (Bool):=if (l0.length:Int)=(l1.length:Int) then (dJ.l0 k l0 l1 (l0.length:Int) 0) else (some false)
set_option maxHeartbeats 8000000 in
set_option maxRecDepth 100000 in
theorem dJ.calls (k:Nat) (A0:Option Addr) (c0:Nat) (l0:List Int) (A1:Option Addr) (c1:Nat) (l1:List Int) (r:Bool) (w:World) (hr0:Kd.C (Kd.int .u16) w A0 l0.length l0) (hc0:l0.length≤c0) (hr1:Kd.C (Kd.int .u16) w A1 l1.length l1) (hc1:l1.length≤c1) (h:dJ.f k l0 l1=some r) :
  Calls Tryz.prog 84 #[.slice A0 l0.length c0,.slice A1 l1.length c1] w fun e w'=>e = .returned (.bool r)∧cO w w':=by
 have HR0:=aj.mk hr0
 have HC0:=aj.mk hc0
 clear hr0 hc0
 have HR1:=aj.mk hr1
 have HC1:=aj.mk hc1
 clear hr1 hc1
 have H:=h
 clear h
 unfold dJ.f at H
 by_cases c3:(l0.length:Int)=(l1.length:Int)
 ·rw [if_pos c3] at H
  have fQ:((l0.length:Int) == (l1.length:Int))=true:=beq_iff_eq.mpr c3
  have wC:((l0.length:Int) != (l1.length:Int))=false:=bne_eq_false_iff_eq.mpr c3
  have ap5:(l0.length == l1.length)=true:=by first|simpa using c3|(simp at c3 ⊢;omega)
  clear c3
  have H':=aj.mk H
  clear H
  go_enter Tryz.func84,Tryz.ntmps84
  go_wp2
  repeat (go_quiet (fail);try go_wp2)
  go_loopg [13] k (fun kq v13 w'=>∃ (gI:Int),v13 = .int .i64 gI∧aj (dJ.l0 kq l0 l1 (l0.length:Int) gI=some r)∧aj (kq≤k)∧cO w w')
  case atStart=>exact ⟨(0),zT,H',⟨Nat.le_refl _⟩,zW⟩
  case round =>
   clear H'
   obtain ⟨gI,rfl,HA,HK1,⟨m1,rfl⟩⟩:=hrel
   cases gk with
   | zero=>exact absurd HA.out (by simp [dJ.l0])
   | succ k1 =>
    have H:=HA.out
    clear HA
    simp only [dJ.l0] at H
    by_cases c4:gI < (l0.length:Int)
    ·rw [if_pos c4] at H
     have fB:=decide_eq_true c4
     clear c4
     by_cases c5:0≤gI
     ·rw [if_pos c5] at H
      have gQ:=decide_eq_true c5
      clear c5
      by_cases c6:gI < (l0.length:Int)
      ·rw [if_pos c6] at H
       have iw:=decide_eq_true c6
       clear c6
       by_cases c7:gI < (l1.length:Int)
       ·rw [if_pos c7] at H
        have jf:=decide_eq_true c7
        clear c7
        by_cases c8:(rd l0 gI)=(rd l1 gI)
        ·rw [if_pos c8] at H
         have um:((rd l0 gI) == (rd l1 gI))=true:=beq_iff_eq.mpr c8
         have aas:((rd l0 gI) != (rd l1 gI))=false:=bne_eq_false_iff_eq.mpr c8
         clear c8
         have H':=aj.mk H
         clear H
         have ag5:0≤(gI:Int):=of_decide_eq_true (by first|(with_reducible assumption)|assumption)
         have ag6:gI < (l0.length:Int):=of_decide_eq_true (by first|(with_reducible assumption)|assumption)
         obtain ⟨axn,asf,aui⟩:=Kd.iI HR0.out gI ag5 ag6
         cases asf
         replace ag5:=eq_true ag5
         replace ag6:=eq_true ag6
         have ag7:0≤(gI:Int):=of_decide_eq_true (by first|(with_reducible assumption)|assumption)
         have ag8:gI < (l1.length:Int):=of_decide_eq_true (by first|(with_reducible assumption)|assumption)
         obtain ⟨axo,asg,auj⟩:=Kd.iI HR1.out gI ag7 ag8
         cases asg
         replace ag7:=eq_true ag7
         replace ag8:=eq_true ag8
         go_wp2
         repeat (go_quiet (fail);try go_wp2)
         go_roundg k1
         case measure=>have:=HK1.out;omega
         case rel=>exact ⟨(wrap64 (gI+1)),zT,H',⟨by have:=HK1.out;omega⟩,zW⟩
        ·rw [if_neg c8] at H
         have um:((rd l0 gI) == (rd l1 gI))=false:=beq_eq_false_iff_ne.mpr c8
         have aas:((rd l0 gI) != (rd l1 gI))=true:=bne_iff_ne.mpr c8
         obtain rfl:=Option.some.inj H
         have ag5:0≤(gI:Int):=of_decide_eq_true (by first|(with_reducible assumption)|assumption)
         have ag6:gI < (l0.length:Int):=of_decide_eq_true (by first|(with_reducible assumption)|assumption)
         obtain ⟨axn,asf,aui⟩:=Kd.iI HR0.out gI ag5 ag6
         cases asf
         replace ag5:=eq_true ag5
         replace ag6:=eq_true ag6
         have ag7:0≤(gI:Int):=of_decide_eq_true (by first|(with_reducible assumption)|assumption)
         have ag8:gI < (l1.length:Int):=of_decide_eq_true (by first|(with_reducible assumption)|assumption)
         obtain ⟨axo,asg,auj⟩:=Kd.iI HR1.out gI ag7 ag8
         cases asg
         replace ag7:=eq_true ag7
         replace ag8:=eq_true ag8
         go_wp2
         repeat (go_quiet (fail);try go_wp2)
         go_ret
         exact ⟨zT,zW⟩
       ·rw [if_neg c7] at H
        exact absurd H (by simp)
      ·rw [if_neg c6] at H
       exact absurd H (by simp)
     ·rw [if_neg c5] at H
      exact absurd H (by simp)
    ·rw [if_neg c4] at H
     have fB:=decide_eq_false c4
     clear c4
     obtain rfl:=Option.some.inj H
     go_wp2
     repeat (go_quiet (fail);try go_wp2)
     go_ret
     exact ⟨zT,zW⟩
 ·rw [if_neg c3] at H
  have fQ:((l0.length:Int) == (l1.length:Int))=false:=beq_eq_false_iff_ne.mpr c3
  have wC:((l0.length:Int) != (l1.length:Int))=true:=bne_iff_ne.mpr c3
  have ap5:(l0.length == l1.length)=false:=by first|simpa using c3|(simp at c3 ⊢;omega)
  obtain rfl:=Option.some.inj H
  go_enter Tryz.func84,Tryz.ntmps84
  go_wp2
  repeat (go_quiet (fail);try go_wp2)
  go_ret
  exact ⟨zT,zW⟩
end Go.Proofs.YtpondkggmcmpfaaGreatDoor.QA
namespace Go.Proofs.YtpondkggmcmpfaaGreatDoor.QA
open Go.Proofs.YtpondkggmcmpfaaGreatDoor.T
open Go.RowKit Go.Proofs.YtpondkggmcmpfaaGreatDoorW.PrintWords Go.Proofs.YtpondkggmcmpfaaGreatDoorW.PrintLast Go.Proofs.YtpondkggmcmpfaaGreatDoorW.PrintMore
attribute [local go_sem] dV dP dQ fC fD
set_option linter.unusedVariables false
set_option linter.unusedSimpArgs false
def lJ.f (a0 a1 a2 a3:Int):Option (Bool):=if a0≥0 then (if a0≤2 then (if a1≥1 then (if a1≤65536 then (if a2≥1 then (if a2≤65536 then (if a3≥0 then (some (decide (a3 < a2))) else (some false)) else (some false)) else (some false)) else (some false)) else (some false)) else (some false)) else (some false)
set_option maxHeartbeats 8000000 in
set_option maxRecDepth 100000 in
theorem lJ.calls (a0 a1 a2 a3:Int) (r:Bool) (w:World) (h:lJ.f a0 a1 a2 a3=some r) :
  Calls Tryz.prog 139 #[.int .i64 a0,.int .i64 a1,.int .i64 a2,.int .i64 a3] w fun e w'=>e = .returned (.bool r)∧cO w w':=by
 have H:=h
 clear h
 unfold lJ.f at H
 by_cases c5:a0≥0
 ·rw [if_pos c5] at H
  have gQ:=decide_eq_true c5
  clear c5
  by_cases c6:a0≤2
  ·rw [if_pos c6] at H
   have iw:=decide_eq_true c6
   clear c6
   by_cases c7:a1≥1
   ·rw [if_pos c7] at H
    have jf:=decide_eq_true c7
    clear c7
    by_cases c8:a1≤65536
    ·rw [if_pos c8] at H
     have um:=decide_eq_true c8
     clear c8
     by_cases c9:a2≥1
     ·rw [if_pos c9] at H
      have qA:=decide_eq_true c9
      clear c9
      by_cases c10:a2≤65536
      ·rw [if_pos c10] at H
       have pK:=decide_eq_true c10
       clear c10
       by_cases c11:a3≥0
       ·rw [if_pos c11] at H
        have iQ:=decide_eq_true c11
        clear c11
        obtain rfl:=Option.some.inj H
        go_enter Tryz.func139,Tryz.ntmps139
        go_wp2
        go_ret
        exact ⟨zT,zW⟩
       ·rw [if_neg c11] at H
        have iQ:=decide_eq_false c11
        clear c11
        obtain rfl:=Option.some.inj H
        go_enter Tryz.func139,Tryz.ntmps139
        go_wp2
        go_ret
        exact ⟨zT,zW⟩
      ·rw [if_neg c10] at H
       have pK:=decide_eq_false c10
       clear c10
       obtain rfl:=Option.some.inj H
       go_enter Tryz.func139,Tryz.ntmps139
       go_wp2
       go_ret
       exact ⟨zT,zW⟩
     ·rw [if_neg c9] at H
      have qA:=decide_eq_false c9
      clear c9
      obtain rfl:=Option.some.inj H
      go_enter Tryz.func139,Tryz.ntmps139
      go_wp2
      go_ret
      exact ⟨zT,zW⟩
    ·rw [if_neg c8] at H
     have um:=decide_eq_false c8
     clear c8
     obtain rfl:=Option.some.inj H
     go_enter Tryz.func139,Tryz.ntmps139
     go_wp2
     go_ret
     exact ⟨zT,zW⟩
   ·rw [if_neg c7] at H
    have jf:=decide_eq_false c7
    clear c7
    obtain rfl:=Option.some.inj H
    go_enter Tryz.func139,Tryz.ntmps139
    go_wp2
    go_ret
    exact ⟨zT,zW⟩
  ·rw [if_neg c6] at H
   have iw:=decide_eq_false c6
   clear c6
   obtain rfl:=Option.some.inj H
   go_enter Tryz.func139,Tryz.ntmps139
   go_wp2
   go_ret
   exact ⟨zT,zW⟩
 ·rw [if_neg c5] at H
  have gQ:=decide_eq_false c5
  clear c5
  obtain rfl:=Option.some.inj H
  go_enter Tryz.func139,Tryz.ntmps139
  go_wp2
  go_ret
  exact ⟨zT,zW⟩
def gB.f (a0 a1 a2 a3:Int):Option (Int × Int):=if a1 > a0 then (some (wrap64 ((wrap64 ((wrap64 ((wrap64 (2*a1))*a3)) - (wrap64 ((wrap64 ((wrap64 (2*a2))+1))*a0))))+a1),wrap64 (2*a1))) else (some (wrap64 ((wrap64 ((wrap64 ((wrap64 (2*a1))*a3)) - (wrap64 ((wrap64 ((wrap64 (2*a2))+1))*a0))))+a1),wrap64 (2*a0)))
set_option maxHeartbeats 8000000 in
set_option maxRecDepth 100000 in
theorem gB.calls (a0 a1 a2 a3 r1 r2:Int) (w:World) (h:gB.f a0 a1 a2 a3=some (r1,r2)) :
  Calls Tryz.prog 169 #[.int .i64 a0,.int .i64 a1,.int .i64 a2,.int .i64 a3] w fun e w'=>e = .returned (.tuple #[.int .i64 r1,.int .i64 r2])∧cO w w':=by
 have H:=h
 clear h
 unfold gB.f at H
 by_cases c5:a1 > a0
 ·rw [if_pos c5] at H
  have gQ:=decide_eq_true c5
  clear c5
  simp only [Option.some.injEq,Prod.mk.injEq] at H
  obtain ⟨rfl,rfl⟩:=H
  go_enter Tryz.func169,Tryz.ntmps169
  go_wp2
  go_ret2
  exact ⟨zT,zW⟩
 ·rw [if_neg c5] at H
  have gQ:=decide_eq_false c5
  clear c5
  simp only [Option.some.injEq,Prod.mk.injEq] at H
  obtain ⟨rfl,rfl⟩:=H
  go_enter Tryz.func169,Tryz.ntmps169
  go_wp2
  go_ret2
  exact ⟨zT,zW⟩
def jh.f (a0 a1 a2 a3 a4:Int):Option (Bool):=if a0=0 then (if (wrap64 ((wrap64 (a4+1))*a2)) > (wrap64 (a3*a1)) then (some (decide ((wrap64 (a4*a2)) < (wrap64 ((wrap64 (a3+1))*a1))))) else (some false)) else ((gB.f a1 a2 a3 a4).bind fun acP=>(if a0=2 then (if acP.1 < (wrap64 (3*acP.2)) then (some (decide (acP.1 > (wrap64 (-(wrap64 (3*acP.2))))))) else (some false)) else (if acP.1 < (wrap64 (2*acP.2)) then (some (decide (acP.1 > (wrap64 (-(wrap64 (2*acP.2))))))) else (some false))))
set_option maxHeartbeats 8000000 in
set_option maxRecDepth 100000 in
theorem jh.calls (a0 a1 a2 a3 a4:Int) (r:Bool) (w:World) (h:jh.f a0 a1 a2 a3 a4=some r) :
  Calls Tryz.prog 140 #[.int .i64 a0,.int .i64 a1,.int .i64 a2,.int .i64 a3,.int .i64 a4] w fun e w'=>e = .returned (.bool r)∧cO w w':=by
 have H:=h
 clear h
 unfold jh.f at H
 by_cases c6:a0=0
 ·rw [if_pos c6] at H
  have iw:(a0 == 0)=true:=beq_iff_eq.mpr c6
  have vI:(a0 != 0)=false:=bne_eq_false_iff_eq.mpr c6
  clear c6
  by_cases c7:(wrap64 ((wrap64 (a4+1))*a2)) > (wrap64 (a3*a1))
  ·rw [if_pos c7] at H
   have jf:=decide_eq_true c7
   clear c7
   obtain rfl:=Option.some.inj H
   go_enter Tryz.func140,Tryz.ntmps140
   go_wp2
   go_ret
   exact ⟨zT,zW⟩
  ·rw [if_neg c7] at H
   have jf:=decide_eq_false c7
   clear c7
   obtain rfl:=Option.some.inj H
   go_enter Tryz.func140,Tryz.ntmps140
   go_wp2
   go_ret
   exact ⟨zT,zW⟩
 ·rw [if_neg c6] at H
  have iw:(a0 == 0)=false:=beq_eq_false_iff_ne.mpr c6
  have vI:(a0 != 0)=true:=bne_iff_ne.mpr c6
  replace H:=zO H
  obtain ⟨⟨aje,ajf⟩,A8,H⟩:=H
  try dsimp only at H
  by_cases c9:a0=2
  ·rw [if_pos c9] at H
   have qA:(a0 == 2)=true:=beq_iff_eq.mpr c9
   have abR:(a0 != 2)=false:=bne_eq_false_iff_eq.mpr c9
   clear c9
   by_cases c10:aje < (wrap64 (3*ajf))
   ·rw [if_pos c10] at H
    have pK:=decide_eq_true c10
    clear c10
    obtain rfl:=Option.some.inj H
    go_enter Tryz.func140,Tryz.ntmps140
    go_wp2_with (first|((with_reducible refine ay (f:=169) rfl ?_);refine aH (some 39) rfl rfl Tryz.func169 (by kernel_rfl) rfl #[.int .i64 a1,.int .i64 a2,.int .i64 a3,.int .i64 a4] rfl zL ?_;(with_reducible refine (gB.calls a1 a2 a3 a4 aje ajf _ A8.out).mono ?_);rintro e w' ⟨rfl,⟨nd,rfl⟩⟩;refine ⟨_,rfl,?_⟩))
    go_ret
    exact ⟨zT,zW⟩
   ·rw [if_neg c10] at H
    have pK:=decide_eq_false c10
    clear c10
    obtain rfl:=Option.some.inj H
    go_enter Tryz.func140,Tryz.ntmps140
    go_wp2_with (first|((with_reducible refine ay (f:=169) rfl ?_);refine aH (some 39) rfl rfl Tryz.func169 (by kernel_rfl) rfl #[.int .i64 a1,.int .i64 a2,.int .i64 a3,.int .i64 a4] rfl zL ?_;(with_reducible refine (gB.calls a1 a2 a3 a4 aje ajf _ A8.out).mono ?_);rintro e w' ⟨rfl,⟨nd,rfl⟩⟩;refine ⟨_,rfl,?_⟩))
    go_ret
    exact ⟨zT,zW⟩
  ·rw [if_neg c9] at H
   have qA:(a0 == 2)=false:=beq_eq_false_iff_ne.mpr c9
   have abR:(a0 != 2)=true:=bne_iff_ne.mpr c9
   by_cases c11:aje < (wrap64 (2*ajf))
   ·rw [if_pos c11] at H
    have iQ:=decide_eq_true c11
    clear c11
    obtain rfl:=Option.some.inj H
    go_enter Tryz.func140,Tryz.ntmps140
    go_wp2_with (first|((with_reducible refine ay (f:=169) rfl ?_);refine aH (some 39) rfl rfl Tryz.func169 (by kernel_rfl) rfl #[.int .i64 a1,.int .i64 a2,.int .i64 a3,.int .i64 a4] rfl zL ?_;(with_reducible refine (gB.calls a1 a2 a3 a4 aje ajf _ A8.out).mono ?_);rintro e w' ⟨rfl,⟨nd,rfl⟩⟩;refine ⟨_,rfl,?_⟩))
    go_ret
    exact ⟨zT,zW⟩
   ·rw [if_neg c11] at H
    have iQ:=decide_eq_false c11
    clear c11
    obtain rfl:=Option.some.inj H
    go_enter Tryz.func140,Tryz.ntmps140
    go_wp2_with (first|((with_reducible refine ay (f:=169) rfl ?_);refine aH (some 39) rfl rfl Tryz.func169 (by kernel_rfl) rfl #[.int .i64 a1,.int .i64 a2,.int .i64 a3,.int .i64 a4] rfl zL ?_;(with_reducible refine (gB.calls a1 a2 a3 a4 aje ajf _ A8.out).mono ?_);rintro e w' ⟨rfl,⟨nd,rfl⟩⟩;refine ⟨_,rfl,?_⟩))
    go_ret
    exact ⟨zT,zW⟩
def dK.f (a0:Int):Option (Int):=if a0 < 0 then (some (IntKind.u64.wrap ((IntKind.u64.wrap (wrap64 (-(wrap64 (a0+1)))))+1))) else (some (IntKind.u64.wrap (a0)))
set_option maxHeartbeats 8000000 in
set_option maxRecDepth 100000 in
theorem dK.calls (a0 r:Int) (w:World) (h:dK.f a0=some r) :
  Calls Tryz.prog 120 #[.int .i64 a0] w fun e w'=>e = .returned (.int .u64 r)∧cO w w':=by
 have H:=h
 clear h
 unfold dK.f at H
 by_cases c2:a0 < 0
 ·rw [if_pos c2] at H
  have nD:=decide_eq_true c2
  clear c2
  obtain rfl:=Option.some.inj H
  go_enter Tryz.func120,Tryz.ntmps120
  go_wp2
  go_ret
  exact ⟨zT,zW⟩
 ·rw [if_neg c2] at H
  have nD:=decide_eq_false c2
  clear c2
  obtain rfl:=Option.some.inj H
  go_enter Tryz.func120,Tryz.ntmps120
  go_wp2
  go_ret
  exact ⟨zT,zW⟩
def dI.f (bn bT a1:Int):Option (Int × Int):=some (IntKind.u64.wrap ((IntKind.u64.wrap (bn*2))+(bT / 9223372036854775808)),IntKind.u64.wrap ((IntKind.u64.wrap (bT*2))+a1))
set_option maxHeartbeats 8000000 in
set_option maxRecDepth 100000 in
theorem dI.calls (bn bT a1 r1 r2:Int) (w:World) (h:dI.f bn bT a1=some (r1,r2)) :
  Calls Tryz.prog 119 #[.agg #[.int .u64 bn,.int .u64 bT],.int .u64 a1] w fun e w'=>e = .returned (.agg #[.int .u64 r1,.int .u64 r2])∧Below w.heap.size w w':=by
 have yE:=Tryz.underlying179
 have HB:=aj.mk (Below.refl w.heap.size w)
 have H:=h
 clear h
 unfold dI.f at H
 simp only [Option.some.injEq,Prod.mk.injEq] at H
 obtain ⟨rfl,rfl⟩:=H
 go_enter Tryz.func119,Tryz.ntmps119
 go_wp2_with (first|((with_reducible refine bF (N:=2) rfl ?_);refine bG zR (N:=2) zR (cs := #[.int .u64 bn,.int .u64 bT]) (t:=179) zG ?_;intro aC0 hg w3 hbox hb;obtain ⟨HB,afV,aC1,aC2⟩:=zA4 (ak zB hb) hbox (zg hg zB) (zg hg zB);clear hb hbox hg)|((with_reducible refine bF (N:=4) rfl ?_);refine bG zR (N:=4) zR (cs := #[.int .u64 0,.int .u64 0]) (t:=179) zG ?_;intro axp hg w4 hbox hb;obtain ⟨afV,HB,aoL,aC3,aC4,apO,apP⟩:=zA7 (aA (zK afV) hb) (ak zB hb) hbox (zg hg zB) (zg hg zB) (zl hg (zK afV)) (zr hg (zK afV));clear hb hbox hg;have azI:=apO.out;have azJ:=apP.out;obtain ⟨_,_⟩:=zC2 afV.out;obtain ⟨_,_⟩:=zF2 afV.out;obtain ⟨_,_⟩:=zC2 aoL.out;obtain ⟨_,_⟩:=zF2 aoL.out))
 refine bodyPost_ret (results_cell_row rfl _ _ axp 179 #[.int .u64 (IntKind.u64.wrap ((IntKind.u64.wrap (bn*2))+(bT / 9223372036854775808))),.int .u64 (IntKind.u64.wrap ((IntKind.u64.wrap (bT*2))+a1))] (0,0) _ rfl (by refine zD ?_;refine aY (cs := #[.int .u64 (IntKind.u64.wrap ((IntKind.u64.wrap (bn*2))+(bT / 9223372036854775808))),.int .u64 0]) ?_ 1 _ rfl;refine zD ?_;refine aY (cs := #[.int .u64 0,.int .u64 0]) ?_ 0 _ rfl;refine zD ?_;exact aoL.out) Tryz.underlying179 rfl (by kernel_rfl)) rfl ?_
 exact ⟨zS,zB⟩
def gW.f (bn bT lS oN:Int):Option (Int × Int):=if (IntKind.u64.wrap (bT+oN)) < bT then (some (IntKind.u64.wrap ((IntKind.u64.wrap (bn+lS))+1),IntKind.u64.wrap (bT+oN))) else (some (IntKind.u64.wrap (bn+lS),IntKind.u64.wrap (bT+oN)))
set_option maxHeartbeats 8000000 in
set_option maxRecDepth 100000 in
theorem gW.calls (bn bT lS oN r1 r2:Int) (w:World) (h:gW.f bn bT lS oN=some (r1,r2)) :
  Calls Tryz.prog 124 #[.agg #[.int .u64 bn,.int .u64 bT],.agg #[.int .u64 lS,.int .u64 oN]] w fun e w'=>e = .returned (.agg #[.int .u64 r1,.int .u64 r2])∧Below w.heap.size w w':=by
 have yE:=Tryz.underlying179
 have HB:=aj.mk (Below.refl w.heap.size w)
 have H:=h
 clear h
 unfold gW.f at H
 by_cases c3:(IntKind.u64.wrap (bT+oN)) < bT
 ·rw [if_pos c3] at H
  have fQ:=decide_eq_true c3
  clear c3
  simp only [Option.some.injEq,Prod.mk.injEq] at H
  obtain ⟨rfl,rfl⟩:=H
  go_enter Tryz.func124,Tryz.ntmps124
  go_wp2_with (first|((with_reducible refine bF (N:=2) rfl ?_);refine bG zR (N:=2) zR (cs := #[.int .u64 bn,.int .u64 bT]) (t:=179) zG ?_;intro axq hg w4 hbox hb;obtain ⟨HB,kE,axr,axt⟩:=zA4 (ak zB hb) hbox (zg hg zB) (zg hg zB);clear hb hbox hg)|((with_reducible refine bF (N:=3) rfl ?_);refine bG zR (N:=3) zR (cs := #[.int .u64 lS,.int .u64 oN]) (t:=179) zG ?_;intro axu hg w5 hbox hb;obtain ⟨kE,HB,qo,axv,axw,ae7,ae8⟩:=zA7 (aA (zK kE) hb) (ak zB hb) hbox (zg hg zB) (zg hg zB) (zl hg (zK kE)) (zr hg (zK kE));clear hb hbox hg)|((with_reducible refine bF (N:=4) rfl ?_);refine bG zR (N:=4) zR (cs := #[.int .u64 0,.int .u64 0]) (t:=179) zG ?_;intro aoM hg w6 hbox hb;obtain ⟨kE,qo,HB,vU,axx,axy,ae9,afa,afb,afc⟩:=aew (aA (zK kE) hb) (aA (zK qo) hb) (ak zB hb) hbox (zg hg zB) (zg hg zB) (zl hg (zK kE)) (zr hg (zK kE)) (zl hg (zK qo)) (zr hg (zK qo));clear hb hbox hg;have avP:=ae7.out;have avQ:=ae8.out;have avR:=ae9.out;have avS:=afa.out;obtain ⟨_,_⟩:=zC2 kE.out;obtain ⟨_,_⟩:=zF2 kE.out;have axz:=afb.out;have axA:=afc.out;obtain ⟨_,_⟩:=zC2 qo.out;obtain ⟨_,_⟩:=zF2 qo.out)|((with_reducible refine bF (N:=5) rfl ?_);refine bG zR (N:=5) zR (cs := #[.int .u64 0,.int .u64 0]) (t:=179) zG ?_;intro axB hg w12 hbox hb;obtain ⟨kE,qo,vU,HB,aii,axC,axD,afd,afe,aff,afg,vG,afh⟩:=agm (aA (zK kE) hb) (aA (zK qo) hb) (aA (zK vU) hb) (ak zB hb) hbox (zg hg zB) (zg hg zB) (zl hg (zK kE)) (zr hg (zK kE)) (zl hg (zK qo)) (zr hg (zK qo)) (zl hg (zK vU)) (zr hg (zK vU));clear hb hbox hg;have aoN:=afe.out;have aoO:=afd.out;have asK:=afg.out;have asL:=aff.out;have axE:=afh.out;have axF:=vG.out;obtain ⟨_,_⟩:=zC2 aii.out;obtain ⟨_,_⟩:=zF2 aii.out;obtain ⟨_,_⟩:=zC2 kE.out;obtain ⟨_,_⟩:=zF2 kE.out;obtain ⟨_,_⟩:=zC2 vU.out;obtain ⟨_,_⟩:=zF2 vU.out))
  refine bodyPost_ret (results_cell_row rfl _ _ aoM 179 #[.int .u64 (IntKind.u64.wrap ((IntKind.u64.wrap (bn+lS))+1)),.int .u64 (IntKind.u64.wrap (bT+oN))] (0,0) _ rfl (by refine zD ?_;refine aY (cs := #[.int .u64 (IntKind.u64.wrap ((IntKind.u64.wrap (bn+lS))+1)),.int .u64 0]) ?_ 1 _ rfl;refine zD ?_;refine aY (cs := #[.int .u64 0,.int .u64 0]) ?_ 0 _ rfl;refine zD ?_;refine kR ?_ vG.out _;refine zD ?_;refine kR ?_ vG.out _;refine zD ?_;refine kR ?_ vG.out _;refine zD ?_;exact vU.out) Tryz.underlying179 rfl (by kernel_rfl)) rfl ?_
  exact ⟨zS,zB⟩
 ·rw [if_neg c3] at H
  have fQ:=decide_eq_false c3
  clear c3
  simp only [Option.some.injEq,Prod.mk.injEq] at H
  obtain ⟨rfl,rfl⟩:=H
  go_enter Tryz.func124,Tryz.ntmps124
  go_wp2_with (first|((with_reducible refine bF (N:=2) rfl ?_);refine bG zR (N:=2) zR (cs := #[.int .u64 bn,.int .u64 bT]) (t:=179) zG ?_;intro axq hg w19 hbox hb;obtain ⟨HB,kE,axr,axt⟩:=zA4 (ak zB hb) hbox (zg hg zB) (zg hg zB);clear hb hbox hg)|((with_reducible refine bF (N:=3) rfl ?_);refine bG zR (N:=3) zR (cs := #[.int .u64 lS,.int .u64 oN]) (t:=179) zG ?_;intro axu hg w20 hbox hb;obtain ⟨kE,HB,qo,axv,axw,ae7,ae8⟩:=zA7 (aA (zK kE) hb) (ak zB hb) hbox (zg hg zB) (zg hg zB) (zl hg (zK kE)) (zr hg (zK kE));clear hb hbox hg)|((with_reducible refine bF (N:=4) rfl ?_);refine bG zR (N:=4) zR (cs := #[.int .u64 0,.int .u64 0]) (t:=179) zG ?_;intro aoM hg w21 hbox hb;obtain ⟨kE,qo,HB,vU,axx,axy,ae9,afa,afb,afc⟩:=aew (aA (zK kE) hb) (aA (zK qo) hb) (ak zB hb) hbox (zg hg zB) (zg hg zB) (zl hg (zK kE)) (zr hg (zK kE)) (zl hg (zK qo)) (zr hg (zK qo));clear hb hbox hg;have atb:=ae7.out;have atc:=ae8.out;have aoP:=ae9.out;have aoQ:=afa.out;obtain ⟨_,_⟩:=zC2 kE.out;obtain ⟨_,_⟩:=zF2 kE.out;have axG:=afb.out;have axH:=afc.out;obtain ⟨_,_⟩:=zC2 qo.out;obtain ⟨_,_⟩:=zF2 qo.out)|((with_reducible refine bF (N:=5) rfl ?_);refine bG zR (N:=5) zR (cs := #[.int .u64 0,.int .u64 0]) (t:=179) zG ?_;intro axB hg w27 hbox hb;obtain ⟨kE,qo,vU,HB,aii,axC,axD,afd,afe,aff,afg,vG,afh⟩:=agm (aA (zK kE) hb) (aA (zK qo) hb) (aA (zK vU) hb) (ak zB hb) hbox (zg hg zB) (zg hg zB) (zl hg (zK kE)) (zr hg (zK kE)) (zl hg (zK qo)) (zr hg (zK qo)) (zl hg (zK vU)) (zr hg (zK vU));clear hb hbox hg;have awk:=afe.out;have awl:=afd.out;have anO:=afg.out;have anP:=aff.out;have atd:=afh.out;have ate:=vG.out;obtain ⟨_,_⟩:=zC2 aii.out;obtain ⟨_,_⟩:=zF2 aii.out;obtain ⟨_,_⟩:=zC2 kE.out;obtain ⟨_,_⟩:=zF2 kE.out;obtain ⟨_,_⟩:=zC2 vU.out;obtain ⟨_,_⟩:=zF2 vU.out))
  refine bodyPost_ret (results_cell_row rfl _ _ aoM 179 #[.int .u64 (IntKind.u64.wrap (bn+lS)),.int .u64 (IntKind.u64.wrap (bT+oN))] (0,0) _ rfl (by refine zD ?_;refine aY (cs := #[.int .u64 (IntKind.u64.wrap (bn+lS)),.int .u64 0]) ?_ 1 _ rfl;refine zD ?_;refine aY (cs := #[.int .u64 0,.int .u64 0]) ?_ 0 _ rfl;refine zD ?_;refine kR ?_ vG.out _;refine zD ?_;refine kR ?_ vG.out _;refine zD ?_;exact vU.out) Tryz.underlying179 rfl (by kernel_rfl)) rfl ?_
  exact ⟨zS,zB⟩
end Go.Proofs.YtpondkggmcmpfaaGreatDoor.QA
namespace Go.Proofs.YtpondkggmcmpfaaGreatDoor.QA
open Go.Proofs.YtpondkggmcmpfaaGreatDoor.T
open Go.RowKit Go.Proofs.YtpondkggmcmpfaaGreatDoorW.PrintWords Go.Proofs.YtpondkggmcmpfaaGreatDoorW.PrintLast Go.Proofs.YtpondkggmcmpfaaGreatDoorW.PrintMore
attribute [local go_sem] dV dP dQ fC fD
set_option linter.unusedVariables false
set_option linter.unusedSimpArgs false
def dR.l0:Nat→Int→Int→Int→Int→Int→Option (Int × Int)
 | 0,_,_,_,_,_=>none
 | k+1,x0,x1,x6,am4,am5=>if x6≥0 then ((dI.f am4 am5 0).bind fun aks=>(if 0≤x6 then (if (Go.bits .and .u64 (shr .u64 x1 x6) 1)=1 then ((gW.f aks.1 aks.2 0 x0).bind fun aij=>(dR.l0 k x0 x1 (wrap64 (x6 - 1)) aij.1 aij.2)) else (dR.l0 k x0 x1 (wrap64 (x6 - 1)) aks.1 aks.2)) else (none))) else (some (am4,am5))
def dR.f (k:Nat) (a0 a1:Int):Option (Int × Int):=dR.l0 k a0 a1 63 0 0
set_option maxHeartbeats 8000000 in
set_option maxRecDepth 100000 in
theorem dR.calls (k:Nat) (a0 a1 r1 r2:Int) (w:World) (h:dR.f k a0 a1=some (r1,r2)) :
  Calls Tryz.prog 148 #[.int .u64 a0,.int .u64 a1] w fun e w'=>e = .returned (.agg #[.int .u64 r1,.int .u64 r2])∧Below w.heap.size w w':=by
 have yE:=Tryz.underlying179
 have HB:=aj.mk (Below.refl w.heap.size w)
 have H:=h
 clear h
 unfold dR.f at H
 have H':=aj.mk H
 clear H
 go_enter Tryz.func148,Tryz.ntmps148
 go_wp2_with (first|((with_reducible refine bF (N:=4) rfl ?_);refine bG zR (N:=4) zR (cs := #[.int .u64 0,.int .u64 0]) (t:=179) zG ?_;intro atf hg w3 hbox hb;obtain ⟨HB,tJ,aC5,aC6⟩:=zA4 (ak zB hb) hbox (zg hg zB) (zg hg zB);clear hb hbox hg)|((with_reducible refine bF (N:=5) rfl ?_);refine bG zR (N:=5) zR (cs := #[.int .u64 0,.int .u64 0]) (t:=179) zG ?_;intro atg hg w4 hbox hb;obtain ⟨tJ,HB,oJ,aC7,aC8,acQ,acR⟩:=zA7 (aA (zK tJ) hb) (ak zB hb) hbox (zg hg zB) (zg hg zB) (zl hg (zK tJ)) (zr hg (zK tJ));clear hb hbox hg;have azI:=acR.out;have azJ:=acQ.out;obtain ⟨_,_⟩:=zC2 oJ.out;obtain ⟨_,_⟩:=zF2 oJ.out))
 go_loopg [6] k (fun kq v6 w'=>∃ (qE:Int) (qF:Int) (pF:Int),v6 = .int .i64 qE∧aj (dR.l0 kq a0 a1 qE qF pF=some (r1,r2))∧aj (kq≤k)∧aj (w'.heap[atf]? = some (.cells #[.int .u64 0,.int .u64 0] 179 (0,0)))∧aj (w'.heap[atg]? = some (.cells #[.int .u64 qF,.int .u64 pF] 179 (0,0)))∧aj (Below w.heap.size w w'))
 case atStart=>exact ⟨(63),(0),(0),zT,H',⟨Nat.le_refl _⟩,⟨zK tJ⟩,⟨by refine zD ?_;refine aY (cs := #[.int .u64 0,.int .u64 0]) ?_ 1 _ rfl;refine zD ?_;refine aY (cs := #[.int .u64 0,.int .u64 0]) ?_ 0 _ rfl;refine zD ?_;exact oJ.out⟩,⟨zB⟩⟩
 case round =>
  clear H'
  obtain ⟨qE,qF,pF,rfl,HA,HK1,tJ,oJ,HB⟩:=hrel
  cases gk with
  | zero=>exact absurd HA.out (by simp [dR.l0])
  | succ k1 =>
   have H:=HA.out
   clear HA
   simp only [dR.l0] at H
   by_cases c7:qE≥0
   ·rw [if_pos c7] at H
    have jf:=decide_eq_true c7
    clear c7
    replace H:=zO H
    obtain ⟨⟨aco,ac8⟩,A8,H⟩:=H
    try dsimp only at H
    by_cases c9:0≤qE
    ·rw [if_pos c9] at H
     have qA:=eq_true c9
     have abR:=decide_eq_true c9
     clear c9
     obtain ⟨dF,jU⟩:∃ j_:Int,(shr .u64 a1 qE)=j_:=⟨_,rfl⟩
     replace H:(if (Go.bits .and .u64 (dF) 1)=1 then ((gW.f aco ac8 0 a0).bind fun aij=>(dR.l0 k1 a0 a1 (wrap64 (qE - 1)) aij.1 aij.2)) else (dR.l0 k1 a0 a1 (wrap64 (qE - 1)) aco ac8))=some (r1,r2):=by first|(rw [jU] at H;exact H)|(simp only [jU] at H ⊢;exact H)
     (try rw [jU] at A8)
     have alR:(a1 / 2 ^ min qE.toNat 64)=dF:=jU
     have apC:qE≤64→(a1 / 2 ^ qE.toNat)=dF:=qp jU
     by_cases c11:(Go.bits .and .u64 (dF) 1)=1
     ·rw [if_pos c11] at H
      have iQ:((Go.bits .and .u64 (dF) 1) == 1)=true:=beq_iff_eq.mpr c11
      have xH:((Go.bits .and .u64 (dF) 1) != 1)=false:=bne_eq_false_iff_eq.mpr c11
      clear c11
      replace H:=zO H
      obtain ⟨⟨ash,avT⟩,A12,H⟩:=H
      try dsimp only at H
      have H':=aj.mk H
      clear H
      have aoN:=acR.out
      have aoO:=acQ.out
      obtain ⟨_,_⟩:=zC2 oJ.out
      obtain ⟨_,_⟩:=zF2 oJ.out
      go_wp2_with (first|((with_reducible refine ay (f:=119) rfl ?_);refine aH (some 13) rfl rfl Tryz.func119 (by kernel_rfl) rfl #[.agg #[.int .u64 qF,.int .u64 pF],.int .u64 0] rfl zL ?_;(with_reducible refine (dI.calls qF pF 0 aco ac8 _ A8.out).mono ?_);rintro e w15 ⟨rfl,hb⟩;refine ⟨_,rfl,?_⟩;obtain ⟨tJ,oJ,HB⟩:=zA3 (aA (zK tJ) hb) (aA (zK oJ) hb) (ak zB hb);(try clear hb);obtain ⟨_,_⟩:=zC2 oJ.out;obtain ⟨_,_⟩:=zF2 oJ.out)|((with_reducible refine ay (f:=124) rfl ?_);refine aH (some 22) rfl rfl Tryz.func124 (by kernel_rfl) rfl #[.agg #[.int .u64 aco,.int .u64 ac8],.agg #[.int .u64 0,.int .u64 a0]] rfl zL ?_;(with_reducible refine (gW.calls aco ac8 0 a0 ash avT _ A12.out).mono ?_);rintro e w17 ⟨rfl,hb⟩;refine ⟨_,rfl,?_⟩;obtain ⟨tJ,oJ,HB⟩:=zA3 (aA (zK tJ) hb) (aA (g:=atg) (o := .cells #[.int .u64 aco,.int .u64 ac8] 179 (0,0)) (by refine zD ?_;refine aY (cs := #[.int .u64 aco,.int .u64 pF]) ?_ 1 _ rfl;refine zD ?_;refine aY (cs := #[.int .u64 qF,.int .u64 pF]) ?_ 0 _ rfl;refine zD ?_;exact oJ.out) hb) (ak zB hb);(try clear hb);obtain ⟨_,_⟩:=zC2 oJ.out;obtain ⟨_,_⟩:=zF2 oJ.out))
      go_roundg k1
      case measure=>have:=HK1.out;omega
      case rel=>exact ⟨(wrap64 (qE - 1)),(ash),(avT),zT,H',⟨by have:=HK1.out;omega⟩,⟨zK tJ⟩,⟨by refine zD ?_;refine aY (cs := #[.int .u64 ash,.int .u64 ac8]) ?_ 1 _ rfl;refine zD ?_;refine aY (cs := #[.int .u64 aco,.int .u64 ac8]) ?_ 0 _ rfl;refine zD ?_;exact oJ.out⟩,⟨zB⟩⟩
     ·rw [if_neg c11] at H
      have iQ:((Go.bits .and .u64 (dF) 1) == 1)=false:=beq_eq_false_iff_ne.mpr c11
      have xH:((Go.bits .and .u64 (dF) 1) != 1)=true:=bne_iff_ne.mpr c11
      have H':=aj.mk H
      clear H
      have aC9:=acR.out
      have aDa:=acQ.out
      obtain ⟨_,_⟩:=zC2 oJ.out
      obtain ⟨_,_⟩:=zF2 oJ.out
      go_wp2_with (first|((with_reducible refine ay (f:=119) rfl ?_);refine aH (some 13) rfl rfl Tryz.func119 (by kernel_rfl) rfl #[.agg #[.int .u64 qF,.int .u64 pF],.int .u64 0] rfl zL ?_;(with_reducible refine (dI.calls qF pF 0 aco ac8 _ A8.out).mono ?_);rintro e w21 ⟨rfl,hb⟩;refine ⟨_,rfl,?_⟩;obtain ⟨tJ,oJ,HB⟩:=zA3 (aA (zK tJ) hb) (aA (zK oJ) hb) (ak zB hb);(try clear hb);obtain ⟨_,_⟩:=zC2 oJ.out;obtain ⟨_,_⟩:=zF2 oJ.out))
      go_roundg k1
      case measure=>have:=HK1.out;omega
      case rel=>exact ⟨(wrap64 (qE - 1)),(aco),(ac8),zT,H',⟨by have:=HK1.out;omega⟩,⟨zK tJ⟩,⟨by refine zD ?_;refine aY (cs := #[.int .u64 aco,.int .u64 pF]) ?_ 1 _ rfl;refine zD ?_;refine aY (cs := #[.int .u64 qF,.int .u64 pF]) ?_ 0 _ rfl;refine zD ?_;exact oJ.out⟩,⟨zB⟩⟩
    ·rw [if_neg c9] at H
     exact absurd H (by simp)
   ·rw [if_neg c7] at H
    have jf:=decide_eq_false c7
    clear c7
    simp only [Option.some.injEq,Prod.mk.injEq] at H
    obtain ⟨rfl,rfl⟩:=H
    have aoP:=acR.out
    have aoQ:=acQ.out
    obtain ⟨_,_⟩:=zC2 oJ.out
    obtain ⟨_,_⟩:=zF2 oJ.out
    obtain ⟨_,_⟩:=zC2 tJ.out
    obtain ⟨_,_⟩:=zF2 tJ.out
    go_wp2
    refine bodyPost_ret (results_cell_row rfl _ _ atf 179 #[.int .u64 qF,.int .u64 pF] (0,0) _ rfl (by refine zD ?_;refine aY (cs := #[.int .u64 qF,.int .u64 0]) ?_ 1 _ rfl;refine zD ?_;refine aY (cs := #[.int .u64 0,.int .u64 0]) ?_ 0 _ rfl;refine zD ?_;exact tJ.out) Tryz.underlying179 rfl (by kernel_rfl)) rfl ?_
    exact ⟨zS,zB⟩
def iC.f (bn bT lS oN:Int):Option (Bool):=if bn=lS then (some (decide (bT < oN))) else (some (decide (bn < lS)))
set_option maxHeartbeats 8000000 in
set_option maxRecDepth 100000 in
theorem iC.calls (bn bT lS oN:Int) (r:Bool) (w:World) (h:iC.f bn bT lS oN=some r) :
  Calls Tryz.prog 123 #[.agg #[.int .u64 bn,.int .u64 bT],.agg #[.int .u64 lS,.int .u64 oN]] w fun e w'=>e = .returned (.bool r)∧Below w.heap.size w w':=by
 have yE:=Tryz.underlying179
 have HB:=aj.mk (Below.refl w.heap.size w)
 have H:=h
 clear h
 unfold iC.f at H
 by_cases c3:bn=lS
 ·rw [if_pos c3] at H
  have fQ:(bn == lS)=true:=beq_iff_eq.mpr c3
  have wC:(bn != lS)=false:=bne_eq_false_iff_eq.mpr c3
  clear c3
  obtain rfl:=Option.some.inj H
  go_enter Tryz.func123,Tryz.ntmps123
  go_wp2_with (first|((with_reducible refine bF (N:=2) rfl ?_);refine bG zR (N:=2) zR (cs := #[.int .u64 bn,.int .u64 bT]) (t:=179) zG ?_;intro axI hg w4 hbox hb;obtain ⟨HB,xR,axJ,axK⟩:=zA4 (ak zB hb) hbox (zg hg zB) (zg hg zB);clear hb hbox hg)|((with_reducible refine bF (N:=3) rfl ?_);refine bG zR (N:=3) zR (cs := #[.int .u64 lS,.int .u64 oN]) (t:=179) zG ?_;intro axL hg w5 hbox hb;obtain ⟨xR,HB,aik,axM,axN,afi,afj⟩:=zA7 (aA (zK xR) hb) (ak zB hb) hbox (zg hg zB) (zg hg zB) (zl hg (zK xR)) (zr hg (zK xR));clear hb hbox hg;have aED:=afi.out;have aEE:=afj.out;obtain ⟨_,_⟩:=zC2 xR.out;obtain ⟨_,_⟩:=zF2 xR.out;obtain ⟨_,_⟩:=zC2 aik.out;obtain ⟨_,_⟩:=zF2 aik.out))
  go_ret
  exact ⟨zS,zB⟩
 ·rw [if_neg c3] at H
  have fQ:(bn == lS)=false:=beq_eq_false_iff_ne.mpr c3
  have wC:(bn != lS)=true:=bne_iff_ne.mpr c3
  obtain rfl:=Option.some.inj H
  go_enter Tryz.func123,Tryz.ntmps123
  go_wp2_with (first|((with_reducible refine bF (N:=2) rfl ?_);refine bG zR (N:=2) zR (cs := #[.int .u64 bn,.int .u64 bT]) (t:=179) zG ?_;intro axI hg w9 hbox hb;obtain ⟨HB,xR,axJ,axK⟩:=zA4 (ak zB hb) hbox (zg hg zB) (zg hg zB);clear hb hbox hg)|((with_reducible refine bF (N:=3) rfl ?_);refine bG zR (N:=3) zR (cs := #[.int .u64 lS,.int .u64 oN]) (t:=179) zG ?_;intro axL hg w10 hbox hb;obtain ⟨xR,HB,aik,axM,axN,afi,afj⟩:=zA7 (aA (zK xR) hb) (ak zB hb) hbox (zg hg zB) (zg hg zB) (zl hg (zK xR)) (zr hg (zK xR));clear hb hbox hg;have axO:=afi.out;have axP:=afj.out;obtain ⟨_,_⟩:=zC2 xR.out;obtain ⟨_,_⟩:=zF2 xR.out;obtain ⟨_,_⟩:=zC2 aik.out;obtain ⟨_,_⟩:=zF2 aik.out))
  go_ret
  exact ⟨zS,zB⟩
def bU.j0:Nat→Bool→Int→Int→Option (Int)
 | 0,_,_,_=>none
 | k+1,x13,az6,auk=>if x13=true then (some (-9223372036854775808)) else (some (wrap64 (-(wrap64 (auk)))))
def bU.f (k:Nat) (bn bT:Int) (a1:Bool):Option (Int):=if a1=true then (if bn > 0 then (bU.j0 k true bn bT) else (bU.j0 k (decide (bT > 9223372036854775807)) bn bT)) else (if bn > 0 then (some 9223372036854775807) else (if bT > 9223372036854775807 then (some 9223372036854775807) else (some (wrap64 (bT)))))
set_option maxHeartbeats 8000000 in
set_option maxRecDepth 100000 in
theorem bU.calls (k:Nat) (bn bT:Int) (a1:Bool) (r:Int) (w:World) (h:bU.f k bn bT a1=some r) :
  Calls Tryz.prog 125 #[.agg #[.int .u64 bn,.int .u64 bT],.bool a1] w fun e w'=>e = .returned (.int .i64 r)∧Below w.heap.size w w':=by
 have yE:=Tryz.underlying179
 have HB:=aj.mk (Below.refl w.heap.size w)
 have H:=h
 clear h
 unfold bU.f at H
 by_cases c3:a1=true
 ·subst c3
  rw [if_pos rfl] at H;try dsimp only at H
  have HC4:=aj.mk H
  clear H
  go_enter Tryz.func125,Tryz.ntmps125
  go_upto_region 2 with (first|((with_reducible refine bF (N:=2) rfl ?_);refine bG zR (N:=2) zR (cs := #[.int .u64 bn,.int .u64 bT]) (t:=179) zG ?_;intro akt hg w5 hbox hb;obtain ⟨HB,rV,aoR,aoS⟩:=zA4 (ak zB hb) hbox (zg hg zB) (zg hg zB);clear hb hbox hg))
  (try simp only [Act.put,List.setIfInBounds_toArray,List.set_cons_zero,List.set_cons_succ])
  go_cut [13] (fun v13 wc=>∃ (kq:Nat) (abG:Bool),v13 = .bool abG∧aj (bU.j0 kq abG bn bT=some r)∧aj (kq≤k)∧aj (wc.heap[akt]? = some (.cells #[.int .u64 bn,.int .u64 bT] 179 (0,0)))∧aj (Below w.heap.size w wc))
  case first =>
   have H:=HC4.out
   clear HC4
   by_cases c6:bn > 0
   ·rw [if_pos c6] at H
    have iw:=decide_eq_true c6
    clear c6
    (first|rw [iw]|(simp only [bY,dw];rw [iw])|skip)
    have H':=aj.mk H
    clear H
    obtain ⟨_,_⟩:=zC2 rV.out
    obtain ⟨_,_⟩:=zF2 rV.out
    go_wp2
    go_meet
    case rel=>exact ⟨_,(true),zT,H',⟨by first|omega|exact Nat.le_refl _⟩,⟨zK rV⟩,⟨zB⟩⟩
   ·rw [if_neg c6] at H
    have iw:=decide_eq_false c6
    clear c6
    (first|rw [iw]|(simp only [bY,dw];rw [iw])|skip)
    have H':=aj.mk H
    clear H
    obtain ⟨_,_⟩:=zC2 rV.out
    obtain ⟨_,_⟩:=zF2 rV.out
    go_wp2
    go_meet
    case rel=>exact ⟨_,(decide (bT > 9223372036854775807)),zT,H',⟨by first|omega|exact Nat.le_refl _⟩,⟨zK rV⟩,⟨zB⟩⟩
  case rest =>
   clear HC4
   obtain ⟨kq,abG,rfl,HA,HJ3,rV,HB⟩:=hcut
   cases kq with
   | zero=>exact absurd HA.out (by simp [bU.j0])
   | succ kj3 =>
    have H:=HA.out
    clear HA
    simp only [bU.j0] at H
    by_cases c9:abG=true
    ·subst c9
     rw [if_pos rfl] at H;try dsimp only at H
     obtain rfl:=Option.some.inj H
     go_wp2
     go_ret
     exact ⟨zS,zB⟩
    ·replace c9:=Bool.eq_false_iff.mpr c9
     subst c9
     rw [if_neg (show ¬ (false=true) by decide)] at H;try dsimp only at H
     obtain rfl:=Option.some.inj H
     obtain ⟨_,_⟩:=zC2 rV.out
     obtain ⟨_,_⟩:=zF2 rV.out
     go_wp2
     go_ret
     exact ⟨zS,zB⟩
 ·replace c3:=Bool.eq_false_iff.mpr c3
  subst c3
  rw [if_neg (show ¬ (false=true) by decide)] at H;try dsimp only at H
  by_cases c11:bn > 0
  ·rw [if_pos c11] at H
   have iQ:=decide_eq_true c11
   clear c11
   obtain rfl:=Option.some.inj H
   go_enter Tryz.func125,Tryz.ntmps125
   go_wp2_with (first|((with_reducible refine bF (N:=2) rfl ?_);refine bG zR (N:=2) zR (cs := #[.int .u64 bn,.int .u64 bT]) (t:=179) zG ?_;intro akt hg w12 hbox hb;obtain ⟨HB,rV,aoR,aoS⟩:=zA4 (ak zB hb) hbox (zg hg zB) (zg hg zB);clear hb hbox hg;obtain ⟨_,_⟩:=zC2 rV.out;obtain ⟨_,_⟩:=zF2 rV.out))
   go_ret
   exact ⟨zS,zB⟩
  ·rw [if_neg c11] at H
   have iQ:=decide_eq_false c11
   clear c11
   by_cases c14:bT > 9223372036854775807
   ·rw [if_pos c14] at H
    have acG:=decide_eq_true c14
    clear c14
    obtain rfl:=Option.some.inj H
    go_enter Tryz.func125,Tryz.ntmps125
    go_wp2_with (first|((with_reducible refine bF (N:=2) rfl ?_);refine bG zR (N:=2) zR (cs := #[.int .u64 bn,.int .u64 bT]) (t:=179) zG ?_;intro akt hg w15 hbox hb;obtain ⟨HB,rV,aoR,aoS⟩:=zA4 (ak zB hb) hbox (zg hg zB) (zg hg zB);clear hb hbox hg;obtain ⟨_,_⟩:=zC2 rV.out;obtain ⟨_,_⟩:=zF2 rV.out))
    go_ret
    exact ⟨zS,zB⟩
   ·rw [if_neg c14] at H
    have acG:=decide_eq_false c14
    clear c14
    obtain rfl:=Option.some.inj H
    go_enter Tryz.func125,Tryz.ntmps125
    go_wp2_with (first|((with_reducible refine bF (N:=2) rfl ?_);refine bG zR (N:=2) zR (cs := #[.int .u64 bn,.int .u64 bT]) (t:=179) zG ?_;intro akt hg w17 hbox hb;obtain ⟨HB,rV,aoR,aoS⟩:=zA4 (ak zB hb) hbox (zg hg zB) (zg hg zB);clear hb hbox hg;obtain ⟨_,_⟩:=zC2 rV.out;obtain ⟨_,_⟩:=zF2 rV.out))
    go_ret
    exact ⟨zS,zB⟩
def fJ.f (bn bT a1:Int):Option (Int):=if a1≥64 then (if 0≤(wrap64 (a1 - 64)) then (some (Go.bits .and .u64 (shr .u64 bn (wrap64 (a1 - 64))) 1)) else (none)) else (if 0≤a1 then (some (Go.bits .and .u64 (shr .u64 bT a1) 1)) else (none))
set_option maxHeartbeats 8000000 in
set_option maxRecDepth 100000 in
theorem fJ.calls (bn bT a1 r:Int) (w:World) (h:fJ.f bn bT a1=some r) :
  Calls Tryz.prog 121 #[.agg #[.int .u64 bn,.int .u64 bT],.int .i64 a1] w fun e w'=>e = .returned (.int .u64 r)∧Below w.heap.size w w':=by
 have yE:=Tryz.underlying179
 have HB:=aj.mk (Below.refl w.heap.size w)
 have H:=h
 clear h
 unfold fJ.f at H
 by_cases c3:a1≥64
 ·rw [if_pos c3] at H
  have fQ:=decide_eq_true c3
  clear c3
  obtain ⟨ji4,qg⟩:∃ j_:Int,(wrap64 (a1 - 64))=j_:=⟨_,rfl⟩
  replace H:(if 0≤(ji4) then (some (Go.bits .and .u64 (shr .u64 bn (ji4)) 1)) else (none))=some r:=by first|(rw [qg] at H;exact H)|(simp only [qg] at H ⊢;exact H)
  have aDb:(IntKind.i64.wrap (a1 - 64))=ji4:=(bY _).trans qg
  by_cases c5:0≤(ji4)
  ·rw [if_pos c5] at H
   have gQ:=eq_true c5
   have acf:=decide_eq_true c5
   clear c5
   obtain ⟨ji6,uw⟩:∃ j_:Int,(shr .u64 bn (ji4))=j_:=⟨_,rfl⟩
   replace H:(some (Go.bits .and .u64 (ji6) 1))=some r:=by first|(rw [uw] at H;exact H)|(simp only [uw] at H ⊢;exact H)
   have asY:(bn / 2 ^ min (ji4).toNat 64)=ji6:=uw
   have aw3:(ji4)≤64→(bn / 2 ^ (ji4).toNat)=ji6:=qp uw
   obtain rfl:=Option.some.inj H
   go_enter Tryz.func121,Tryz.ntmps121
   go_wp2_with (first|((with_reducible refine bF (N:=2) rfl ?_);refine bG zR (N:=2) zR (cs := #[.int .u64 bn,.int .u64 bT]) (t:=179) zG ?_;intro axQ hg w7 hbox hb;obtain ⟨HB,ail,axR,axS⟩:=zA4 (ak zB hb) hbox (zg hg zB) (zg hg zB);clear hb hbox hg;obtain ⟨_,_⟩:=zC2 ail.out;obtain ⟨_,_⟩:=zF2 ail.out))
   go_ret
   exact ⟨by first|rfl|(simp [bH,bI] <;> rfl)|(simp only [← qg,← uw];first|rfl|(simp [bH,bI] <;> rfl))|(simp [*,bH,bI] <;> rfl),zB⟩
  ·rw [if_neg c5] at H
   exact absurd H (by simp)
 ·rw [if_neg c3] at H
  have fQ:=decide_eq_false c3
  clear c3
  by_cases c9:0≤a1
  ·rw [if_pos c9] at H
   have qA:=eq_true c9
   have abR:=decide_eq_true c9
   clear c9
   obtain ⟨dF,jU⟩:∃ j_:Int,(shr .u64 bT a1)=j_:=⟨_,rfl⟩
   replace H:(some (Go.bits .and .u64 (dF) 1))=some r:=by first|(rw [jU] at H;exact H)|(simp only [jU] at H ⊢;exact H)
   have alR:(bT / 2 ^ min a1.toNat 64)=dF:=jU
   have apC:a1≤64→(bT / 2 ^ a1.toNat)=dF:=qp jU
   obtain rfl:=Option.some.inj H
   go_enter Tryz.func121,Tryz.ntmps121
   go_wp2_with (first|((with_reducible refine bF (N:=2) rfl ?_);refine bG zR (N:=2) zR (cs := #[.int .u64 bn,.int .u64 bT]) (t:=179) zG ?_;intro axQ hg w11 hbox hb;obtain ⟨HB,ail,axR,axS⟩:=zA4 (ak zB hb) hbox (zg hg zB) (zg hg zB);clear hb hbox hg;obtain ⟨_,_⟩:=zC2 ail.out;obtain ⟨_,_⟩:=zF2 ail.out))
   go_ret
   exact ⟨by first|rfl|(simp [bH,bI] <;> rfl)|(simp only [← jU];first|rfl|(simp [bH,bI] <;> rfl))|(simp [*,bH,bI] <;> rfl),zB⟩
  ·rw [if_neg c9] at H
   exact absurd H (by simp)
end Go.Proofs.YtpondkggmcmpfaaGreatDoor.QA
namespace Go.Proofs.YtpondkggmcmpfaaGreatDoor.QA
open Go.Proofs.YtpondkggmcmpfaaGreatDoor.T
open Go.RowKit Go.Proofs.YtpondkggmcmpfaaGreatDoorW.PrintWords Go.Proofs.YtpondkggmcmpfaaGreatDoorW.PrintLast Go.Proofs.YtpondkggmcmpfaaGreatDoorW.PrintMore
attribute [local go_sem] dV dP dQ fC fD
set_option linter.unusedVariables false
set_option linter.unusedSimpArgs false
def kC.f (bn bT lS oN:Int):Option (Int × Int):=if bT < oN then (some (IntKind.u64.wrap ((IntKind.u64.wrap (bn - lS)) - 1),IntKind.u64.wrap (bT - oN))) else (some (IntKind.u64.wrap (bn - lS),IntKind.u64.wrap (bT - oN)))
set_option maxHeartbeats 8000000 in
set_option maxRecDepth 100000 in
theorem kC.calls (bn bT lS oN r1 r2:Int) (w:World) (h:kC.f bn bT lS oN=some (r1,r2)) :
  Calls Tryz.prog 122 #[.agg #[.int .u64 bn,.int .u64 bT],.agg #[.int .u64 lS,.int .u64 oN]] w fun e w'=>e = .returned (.agg #[.int .u64 r1,.int .u64 r2])∧Below w.heap.size w w':=by
 have yE:=Tryz.underlying179
 have HB:=aj.mk (Below.refl w.heap.size w)
 have H:=h
 clear h
 unfold kC.f at H
 by_cases c3:bT < oN
 ·rw [if_pos c3] at H
  have fQ:=decide_eq_true c3
  clear c3
  simp only [Option.some.injEq,Prod.mk.injEq] at H
  obtain ⟨rfl,rfl⟩:=H
  go_enter Tryz.func122,Tryz.ntmps122
  go_wp2_with (first|((with_reducible refine bF (N:=2) rfl ?_);refine bG zR (N:=2) zR (cs := #[.int .u64 bn,.int .u64 bT]) (t:=179) zG ?_;intro axT hg w4 hbox hb;obtain ⟨HB,kF,axU,axV⟩:=zA4 (ak zB hb) hbox (zg hg zB) (zg hg zB);clear hb hbox hg)|((with_reducible refine bF (N:=3) rfl ?_);refine bG zR (N:=3) zR (cs := #[.int .u64 lS,.int .u64 oN]) (t:=179) zG ?_;intro axW hg w5 hbox hb;obtain ⟨kF,HB,nO,axX,axY,afk,afl⟩:=zA7 (aA (zK kF) hb) (ak zB hb) hbox (zg hg zB) (zg hg zB) (zl hg (zK kF)) (zr hg (zK kF));clear hb hbox hg)|((with_reducible refine bF (N:=4) rfl ?_);refine bG zR (N:=4) zR (cs := #[.int .u64 0,.int .u64 0]) (t:=179) zG ?_;intro aoT hg w6 hbox hb;obtain ⟨kF,nO,HB,vV,axZ,ax0,afm,afn,afo,afp⟩:=aew (aA (zK kF) hb) (aA (zK nO) hb) (ak zB hb) hbox (zg hg zB) (zg hg zB) (zl hg (zK kF)) (zr hg (zK kF)) (zl hg (zK nO)) (zr hg (zK nO));clear hb hbox hg;have avP:=afk.out;have avQ:=afl.out;have avR:=afm.out;have avS:=afn.out;obtain ⟨_,_⟩:=zC2 kF.out;obtain ⟨_,_⟩:=zF2 kF.out;have axz:=afo.out;have axA:=afp.out;obtain ⟨_,_⟩:=zC2 nO.out;obtain ⟨_,_⟩:=zF2 nO.out)|((with_reducible refine bF (N:=5) rfl ?_);refine bG zR (N:=5) zR (cs := #[.int .u64 0,.int .u64 0]) (t:=179) zG ?_;intro ax1 hg w12 hbox hb;obtain ⟨kF,nO,vV,HB,ain,ax2,ax3,afq,afr,afs,aft,vH,afu⟩:=agm (aA (zK kF) hb) (aA (zK nO) hb) (aA (zK vV) hb) (ak zB hb) hbox (zg hg zB) (zg hg zB) (zl hg (zK kF)) (zr hg (zK kF)) (zl hg (zK nO)) (zr hg (zK nO)) (zl hg (zK vV)) (zr hg (zK vV));clear hb hbox hg;have aoN:=afr.out;have aoO:=afq.out;have asK:=aft.out;have asL:=afs.out;have axE:=afu.out;have axF:=vH.out;obtain ⟨_,_⟩:=zC2 ain.out;obtain ⟨_,_⟩:=zF2 ain.out;obtain ⟨_,_⟩:=zC2 kF.out;obtain ⟨_,_⟩:=zF2 kF.out;obtain ⟨_,_⟩:=zC2 nO.out;obtain ⟨_,_⟩:=zF2 nO.out;obtain ⟨_,_⟩:=zC2 vV.out;obtain ⟨_,_⟩:=zF2 vV.out))
  refine bodyPost_ret (results_cell_row rfl _ _ aoT 179 #[.int .u64 (IntKind.u64.wrap ((IntKind.u64.wrap (bn - lS)) - 1)),.int .u64 (IntKind.u64.wrap (bT - oN))] (0,0) _ rfl (by refine zD ?_;refine aY (cs := #[.int .u64 (IntKind.u64.wrap ((IntKind.u64.wrap (bn - lS)) - 1)),.int .u64 0]) ?_ 1 _ rfl;refine zD ?_;refine aY (cs := #[.int .u64 0,.int .u64 0]) ?_ 0 _ rfl;refine zD ?_;refine kR ?_ vH.out _;refine zD ?_;refine kR ?_ vH.out _;refine zD ?_;refine kR ?_ vH.out _;refine zD ?_;exact vV.out) Tryz.underlying179 rfl (by kernel_rfl)) rfl ?_
  exact ⟨zS,zB⟩
 ·rw [if_neg c3] at H
  have fQ:=decide_eq_false c3
  clear c3
  simp only [Option.some.injEq,Prod.mk.injEq] at H
  obtain ⟨rfl,rfl⟩:=H
  go_enter Tryz.func122,Tryz.ntmps122
  go_wp2_with (first|((with_reducible refine bF (N:=2) rfl ?_);refine bG zR (N:=2) zR (cs := #[.int .u64 bn,.int .u64 bT]) (t:=179) zG ?_;intro axT hg w20 hbox hb;obtain ⟨HB,kF,axU,axV⟩:=zA4 (ak zB hb) hbox (zg hg zB) (zg hg zB);clear hb hbox hg)|((with_reducible refine bF (N:=3) rfl ?_);refine bG zR (N:=3) zR (cs := #[.int .u64 lS,.int .u64 oN]) (t:=179) zG ?_;intro axW hg w21 hbox hb;obtain ⟨kF,HB,nO,axX,axY,afk,afl⟩:=zA7 (aA (zK kF) hb) (ak zB hb) hbox (zg hg zB) (zg hg zB) (zl hg (zK kF)) (zr hg (zK kF));clear hb hbox hg)|((with_reducible refine bF (N:=4) rfl ?_);refine bG zR (N:=4) zR (cs := #[.int .u64 0,.int .u64 0]) (t:=179) zG ?_;intro aoT hg w22 hbox hb;obtain ⟨kF,nO,HB,vV,axZ,ax0,afm,afn,afo,afp⟩:=aew (aA (zK kF) hb) (aA (zK nO) hb) (ak zB hb) hbox (zg hg zB) (zg hg zB) (zl hg (zK kF)) (zr hg (zK kF)) (zl hg (zK nO)) (zr hg (zK nO));clear hb hbox hg;have aoP:=afk.out;have aoQ:=afl.out;have aDc:=afm.out;have aDd:=afn.out;obtain ⟨_,_⟩:=zC2 kF.out;obtain ⟨_,_⟩:=zF2 kF.out;have ax4:=afo.out;have ax5:=afp.out;obtain ⟨_,_⟩:=zC2 nO.out;obtain ⟨_,_⟩:=zF2 nO.out)|((with_reducible refine bF (N:=5) rfl ?_);refine bG zR (N:=5) zR (cs := #[.int .u64 0,.int .u64 0]) (t:=179) zG ?_;intro ax1 hg w28 hbox hb;obtain ⟨kF,nO,vV,HB,ain,ax2,ax3,afq,afr,afs,aft,vH,afu⟩:=agm (aA (zK kF) hb) (aA (zK nO) hb) (aA (zK vV) hb) (ak zB hb) hbox (zg hg zB) (zg hg zB) (zl hg (zK kF)) (zr hg (zK kF)) (zl hg (zK nO)) (zr hg (zK nO)) (zl hg (zK vV)) (zr hg (zK vV));clear hb hbox hg;have anO:=afr.out;have anP:=afq.out;have atd:=aft.out;have ate:=afs.out;have aDe:=afu.out;have aDf:=vH.out;obtain ⟨_,_⟩:=zC2 ain.out;obtain ⟨_,_⟩:=zF2 ain.out;obtain ⟨_,_⟩:=zC2 kF.out;obtain ⟨_,_⟩:=zF2 kF.out;obtain ⟨_,_⟩:=zC2 nO.out;obtain ⟨_,_⟩:=zF2 nO.out;obtain ⟨_,_⟩:=zC2 vV.out;obtain ⟨_,_⟩:=zF2 vV.out))
  refine bodyPost_ret (results_cell_row rfl _ _ aoT 179 #[.int .u64 (IntKind.u64.wrap (bn - lS)),.int .u64 (IntKind.u64.wrap (bT - oN))] (0,0) _ rfl (by refine zD ?_;refine aY (cs := #[.int .u64 (IntKind.u64.wrap (bn - lS)),.int .u64 0]) ?_ 1 _ rfl;refine zD ?_;refine aY (cs := #[.int .u64 0,.int .u64 0]) ?_ 0 _ rfl;refine zD ?_;refine kR ?_ vH.out _;refine zD ?_;refine kR ?_ vH.out _;refine zD ?_;exact vV.out) Tryz.underlying179 rfl (by kernel_rfl)) rfl ?_
  exact ⟨zS,zB⟩
end Go.Proofs.YtpondkggmcmpfaaGreatDoor.QA
namespace Go.Proofs.YtpondkggmcmpfaaGreatDoor.QA
open Go.Proofs.YtpondkggmcmpfaaGreatDoor.T
open Go.RowKit Go.Proofs.YtpondkggmcmpfaaGreatDoorW.PrintWords Go.Proofs.YtpondkggmcmpfaaGreatDoorW.PrintLast Go.Proofs.YtpondkggmcmpfaaGreatDoorW.PrintMore
attribute [local go_sem] dV dP dQ fC fD
set_option linter.unusedVariables false
set_option linter.unusedSimpArgs false
def fE.l0:Nat→Int→Int→Int→Int→Int→Int→Int→Int→Option (Int × Int × Int)
 | 0,_,_,_,_,_,_,_,_=>none
 | k+1,x1,x8,ajg,ajh,am6,am7,aul,am8=>if x8≥0 then ((fJ.f ajg ajh x8).bind fun afv=>((dI.f aul am8 afv).bind fun afW=>((dI.f am6 am7 0).bind fun aku=>((iC.f afW.1 afW.2 0 x1).bind fun asi=>(if asi=true then (fE.l0 k x1 (wrap64 (x8 - 1)) ajg ajh aku.1 aku.2 afW.1 afW.2) else ((kC.f afW.1 afW.2 0 x1).bind fun ath=>(fE.l0 k x1 (wrap64 (x8 - 1)) ajg ajh aku.1 (IntKind.u64.wrap (aku.2+1)) ath.1 ath.2))))))) else (some (am6,am7,am8))
def fE.f (k:Nat) (bn bT a1:Int):Option (Int × Int × Int):=if a1=0 then (some (0,0,0)) else (fE.l0 k a1 127 bn bT 0 0 0 0)
set_option maxHeartbeats 8000000 in
set_option maxRecDepth 100000 in
theorem fE.calls (k:Nat) (bn bT a1 r1 r2 r3:Int) (w:World) (h:fE.f k bn bT a1=some (r1,r2,r3)) :
  Calls Tryz.prog 172 #[.agg #[.int .u64 bn,.int .u64 bT],.int .u64 a1] w fun e w'=>e = .returned (.tuple #[.agg #[.int .u64 r1,.int .u64 r2],.int .u64 r3])∧Below w.heap.size w w':=by
 have yE:=Tryz.underlying179
 have HB:=aj.mk (Below.refl w.heap.size w)
 have H:=h
 clear h
 unfold fE.f at H
 by_cases c3:a1=0
 ·rw [if_pos c3] at H
  have fQ:(a1 == 0)=true:=beq_iff_eq.mpr c3
  have wC:(a1 != 0)=false:=bne_eq_false_iff_eq.mpr c3
  clear c3
  simp only [Option.some.injEq,Prod.mk.injEq] at H
  obtain ⟨rfl,rfl,rfl⟩:=H
  go_enter Tryz.func172,Tryz.ntmps172
  go_wp2_with (first|((with_reducible refine bF (N:=2) rfl ?_);refine bG zR (N:=2) zR (cs := #[.int .u64 bn,.int .u64 bT]) (t:=179) zG ?_;intro afX hg w4 hbox hb;obtain ⟨HB,fA,ax6,ax7⟩:=zA4 (ak zB hb) hbox (zg hg zB) (zg hg zB);clear hb hbox hg)|((with_reducible refine bF (N:=4) rfl ?_);refine bG zR (N:=4) zR (cs := #[.int .u64 0,.int .u64 0]) (t:=179) zG ?_;intro wS hg w5 hbox hb;obtain ⟨fA,HB,ig,ax8,ax9,acS,acT⟩:=zA7 (aA (zK fA) hb) (ak zB hb) hbox (zg hg zB) (zg hg zB) (zl hg (zK fA)) (zr hg (zK fA));clear hb hbox hg)|((with_reducible refine bF (N:=6) rfl ?_);refine bG zR (N:=6) zR (cs := #[.int .u64 0,.int .u64 0]) (t:=179) zG ?_;intro uH hg w6 hbox hb;obtain ⟨fA,ig,HB,gJ,aya,ayb,aa5,aa6,xC,qG⟩:=aew (aA (zK fA) hb) (aA (zK ig) hb) (ak zB hb) hbox (zg hg zB) (zg hg zB) (zl hg (zK fA)) (zr hg (zK fA)) (zl hg (zK ig)) (zr hg (zK ig));clear hb hbox hg;have avP:=aa6.out;have avQ:=aa5.out;have avR:=qG.out;have avS:=xC.out;obtain ⟨_,_⟩:=zC2 gJ.out;obtain ⟨_,_⟩:=zF2 gJ.out)|((with_reducible refine bF (N:=7) rfl ?_);refine bG zR (N:=7) zR (cs := #[.int .u64 0,.int .u64 0]) (t:=179) zG ?_;intro rW hg w10 hbox hb;obtain ⟨fA,ig,gJ,HB,fF,ayc,ayd,tK,tN,oD,l9,qH,qX⟩:=agm (aA (zK fA) hb) (aA (zK ig) hb) (aA (g:=uH) (o := .cells #[.int .u64 0,.int .u64 0] 179 (0,0)) (by refine zD ?_;refine aY (cs := #[.int .u64 0,.int .u64 0]) ?_ 1 _ rfl;refine zD ?_;refine aY (cs := #[.int .u64 0,.int .u64 0]) ?_ 0 _ rfl;refine zD ?_;exact gJ.out) hb) (ak zB hb) hbox (zg hg zB) (zg hg zB) (zl hg (zK fA)) (zr hg (zK fA)) (zl hg (zK ig)) (zr hg (zK ig)) ((by rw [hg];exact Nat.ne_of_lt (bC (g:=uH) (o := .cells #[.int .u64 0,.int .u64 0] 179 (0,0)) (by refine zD ?_;refine aY (cs := #[.int .u64 0,.int .u64 0]) ?_ 1 _ rfl;refine zD ?_;refine aY (cs := #[.int .u64 0,.int .u64 0]) ?_ 0 _ rfl;refine zD ?_;exact gJ.out)):uH≠rW)) ((by rw [hg];exact Nat.ne_of_gt (bC (g:=uH) (o := .cells #[.int .u64 0,.int .u64 0] 179 (0,0)) (by refine zD ?_;refine aY (cs := #[.int .u64 0,.int .u64 0]) ?_ 1 _ rfl;refine zD ?_;refine aY (cs := #[.int .u64 0,.int .u64 0]) ?_ 0 _ rfl;refine zD ?_;exact gJ.out)):rW≠uH));clear hb hbox hg;have axO:=tN.out;have axP:=tK.out;have aye:=l9.out;have ayf:=oD.out;have aoN:=qX.out;have aoO:=qH.out;obtain ⟨_,_⟩:=zC2 fF.out;obtain ⟨_,_⟩:=zF2 fF.out;obtain ⟨_,_⟩:=zC2 gJ.out;obtain ⟨_,_⟩:=zF2 gJ.out;have ayg:=acT.out;have ayh:=acS.out;obtain ⟨_,_⟩:=zC2 ig.out;obtain ⟨_,_⟩:=zF2 ig.out))
  refine bodyPost_ret (ahe rfl _ _ wS 179 #[.int .u64 0,.int .u64 0] (0,0) _ rfl (by refine zD ?_;refine aY (cs := #[.int .u64 0,.int .u64 0]) ?_ 1 _ rfl;refine zD ?_;refine aY (cs := #[.int .u64 0,.int .u64 0]) ?_ 0 _ rfl;refine zD ?_;refine kR ?_ oD.out _;refine zD ?_;refine kR ?_ oD.out _;refine zD ?_;exact ig.out) Tryz.underlying179 rfl (by kernel_rfl)) rfl ?_
  exact ⟨zS,zB⟩
 ·rw [if_neg c3] at H
  have fQ:(a1 == 0)=false:=beq_eq_false_iff_ne.mpr c3
  have wC:(a1 != 0)=true:=bne_iff_ne.mpr c3
  have H':=aj.mk H
  clear H
  go_enter Tryz.func172,Tryz.ntmps172
  go_wp2_with (first|((with_reducible refine bF (N:=2) rfl ?_);refine bG zR (N:=2) zR (cs := #[.int .u64 bn,.int .u64 bT]) (t:=179) zG ?_;intro afX hg w18 hbox hb;obtain ⟨HB,fA,ax6,ax7⟩:=zA4 (ak zB hb) hbox (zg hg zB) (zg hg zB);clear hb hbox hg)|((with_reducible refine bF (N:=4) rfl ?_);refine bG zR (N:=4) zR (cs := #[.int .u64 0,.int .u64 0]) (t:=179) zG ?_;intro wS hg w19 hbox hb;obtain ⟨fA,HB,ig,ax8,ax9,acS,acT⟩:=zA7 (aA (zK fA) hb) (ak zB hb) hbox (zg hg zB) (zg hg zB) (zl hg (zK fA)) (zr hg (zK fA));clear hb hbox hg)|((with_reducible refine bF (N:=6) rfl ?_);refine bG zR (N:=6) zR (cs := #[.int .u64 0,.int .u64 0]) (t:=179) zG ?_;intro uH hg w20 hbox hb;obtain ⟨fA,ig,HB,gJ,aya,ayb,aa5,aa6,xC,qG⟩:=aew (aA (zK fA) hb) (aA (zK ig) hb) (ak zB hb) hbox (zg hg zB) (zg hg zB) (zl hg (zK fA)) (zr hg (zK fA)) (zl hg (zK ig)) (zr hg (zK ig));clear hb hbox hg;have aDg:=aa6.out;have aDh:=aa5.out;have atb:=qG.out;have atc:=xC.out;obtain ⟨_,_⟩:=zC2 gJ.out;obtain ⟨_,_⟩:=zF2 gJ.out)|((with_reducible refine bF (N:=7) rfl ?_);refine bG zR (N:=7) zR (cs := #[.int .u64 0,.int .u64 0]) (t:=179) zG ?_;intro rW hg w24 hbox hb;obtain ⟨fA,ig,gJ,HB,fF,ayc,ayd,tK,tN,oD,l9,qH,qX⟩:=agm (aA (zK fA) hb) (aA (zK ig) hb) (aA (g:=uH) (o := .cells #[.int .u64 0,.int .u64 0] 179 (0,0)) (by refine zD ?_;refine aY (cs := #[.int .u64 0,.int .u64 0]) ?_ 1 _ rfl;refine zD ?_;refine aY (cs := #[.int .u64 0,.int .u64 0]) ?_ 0 _ rfl;refine zD ?_;exact gJ.out) hb) (ak zB hb) hbox (zg hg zB) (zg hg zB) (zl hg (zK fA)) (zr hg (zK fA)) (zl hg (zK ig)) (zr hg (zK ig)) ((by rw [hg];exact Nat.ne_of_lt (bC (g:=uH) (o := .cells #[.int .u64 0,.int .u64 0] 179 (0,0)) (by refine zD ?_;refine aY (cs := #[.int .u64 0,.int .u64 0]) ?_ 1 _ rfl;refine zD ?_;refine aY (cs := #[.int .u64 0,.int .u64 0]) ?_ 0 _ rfl;refine zD ?_;exact gJ.out)):uH≠rW)) ((by rw [hg];exact Nat.ne_of_gt (bC (g:=uH) (o := .cells #[.int .u64 0,.int .u64 0] 179 (0,0)) (by refine zD ?_;refine aY (cs := #[.int .u64 0,.int .u64 0]) ?_ 1 _ rfl;refine zD ?_;refine aY (cs := #[.int .u64 0,.int .u64 0]) ?_ 0 _ rfl;refine zD ?_;exact gJ.out)):rW≠uH));clear hb hbox hg;have axG:=tN.out;have axH:=tK.out;have ax4:=l9.out;have ax5:=oD.out;have aDi:=qX.out;have aDj:=qH.out;obtain ⟨_,_⟩:=zC2 fF.out;obtain ⟨_,_⟩:=zF2 fF.out))
  go_loopg [8] k (fun kq v8 w'=>∃ (iy:Int) (pG:Int) (oG:Int) (nC:Int) (lC:Int),v8 = .int .i64 iy∧aj (fE.l0 kq a1 iy bn bT pG oG nC lC=some (r1,r2,r3))∧aj (kq≤k)∧aj (w'.heap[afX]? = some (.cells #[.int .u64 bn,.int .u64 bT] 179 (0,0)))∧aj (w'.heap[wS]? = some (.cells #[.int .u64 0,.int .u64 0] 179 (0,0)))∧aj (w'.heap[uH]? = some (.cells #[.int .u64 pG,.int .u64 oG] 179 (0,0)))∧aj (w'.heap[rW]? = some (.cells #[.int .u64 nC,.int .u64 lC] 179 (0,0)))∧aj (Below w.heap.size w w'))
  case atStart=>exact ⟨(127),(0),(0),(0),(0),zT,H',⟨Nat.le_refl _⟩,⟨zK fA⟩,⟨zK ig⟩,⟨zK gJ⟩,⟨by refine zD ?_;refine aY (cs := #[.int .u64 0,.int .u64 0]) ?_ 1 _ rfl;refine zD ?_;refine aY (cs := #[.int .u64 0,.int .u64 0]) ?_ 0 _ rfl;refine zD ?_;exact fF.out⟩,⟨zB⟩⟩
  case round =>
   clear H'
   obtain ⟨iy,pG,oG,nC,lC,rfl,HA,HK1,fA,ig,gJ,fF,HB⟩:=hrel
   cases gk with
   | zero=>exact absurd HA.out (by simp [fE.l0])
   | succ k1 =>
    have H:=HA.out
    clear HA
    simp only [fE.l0] at H
    by_cases c29:iy≥0
    ·rw [if_pos c29] at H
     have an8:=decide_eq_true c29
     clear c29
     replace H:=zO H
     obtain ⟨afv,A30,H⟩:=H
     try dsimp only at H
     replace H:=zO H
     obtain ⟨⟨aao,aaM⟩,A31,H⟩:=H
     try dsimp only at H
     replace H:=zO H
     obtain ⟨⟨ad9,ag9⟩,A32,H⟩:=H
     try dsimp only at H
     replace H:=zO H
     obtain ⟨asi,A33,H⟩:=H
     try dsimp only at H
     by_cases c34:asi=true
     ·subst c34
      rw [if_pos rfl] at H;try dsimp only at H
      have H':=aj.mk H
      clear H
      try go_wp2
      obtain ⟨fA,ig,gJ,fF,HB⟩:=zA5 (kH fA.out) (kH ig.out) (kH gJ.out) (kH fF.out) (aZ HB.out)
      refine ade (n:=6) (S:=fun w'=>w'.cell? ⟨rW,0,none⟩=some (.int .u64 nC)∧w'.cell? ⟨rW,1,none⟩=some (.int .u64 lC)∧w'.cell? ⟨afX,0,none⟩=some (.int .u64 bn)∧w'.cell? ⟨afX,1,none⟩=some (.int .u64 bT)) (ds:=[5]) #[false,false,false,false,false,false] (by kernel_rfl) rfl rfl ⟨(au fF.out 0).trans rfl,(au fF.out 1).trans rfl,(au fA.out 0).trans rfl,(au fA.out 1).trans rfl⟩ (fun hHeld => ?_)
      generalize wr.drew=w35 at fA ig gJ fF HB hHeld ⊢
      refine yA (i:=2) (N:=some 20) (v := ?_) (a' := ?_) #[false,false,true,false,false,false] rfl rfl (by kernel_rfl) (fun _ _ _ h=>h) (Or.inl ⟨by rfl,?_⟩) ?_ ?_
      rotate_left
      ·intro w'
       go_simp
       with_reducible rfl
      rotate_left
      ·simp only [Act.put,List.setIfInBounds_toArray,List.set_cons_zero,List.set_cons_succ,bY,dw]
       rfl
      refine zu (i:=0) (N:=some 18) (v := ?_) (a' := ?_) #[true,false,true,false,false,false] rfl rfl (by kernel_rfl) (fun _ _ _ h=>h) (Or.inl ⟨by rfl,?_⟩) hHeld ?_ ?_
      rotate_left
      ·rintro w' ⟨s0,s1,s2,s3⟩
       go_simp
       with_reducible rfl
      rotate_left
      ·simp only [Act.put,List.setIfInBounds_toArray,List.set_cons_zero,List.set_cons_succ,bY,dw]
       rfl
      refine zu (i:=1) (N:=some 19) (v := ?_) (a' := ?_) #[true,true,true,false,false,false] rfl rfl (by kernel_rfl) (fun _ _ _ h=>h) (Or.inl ⟨by rfl,?_⟩) hHeld ?_ ?_
      rotate_left
      ·rintro w' ⟨s0,s1,s2,s3⟩
       go_simp
       with_reducible rfl
      rotate_left
      ·simp only [Act.put,List.setIfInBounds_toArray,List.set_cons_zero,List.set_cons_succ,bY,dw]
       rfl
      refine abP (i:=3) (N:=some 21) #[true,true,true,true,false,false] rfl rfl (by kernel_rfl) (by decide) (fun K hK => ?_)
      refine aaO Tryz.func121 (by kernel_rfl) rfl #[.agg #[.int .u64 bn,.int .u64 bT],.int .i64 iy] (by rfl) rfl rfl zL ?_
      with_reducible refine (fJ.calls bn bT iy afv _ A30.out).mono ?_
      rintro e w36 ⟨rfl,hb⟩
      refine ⟨_,rfl,?_⟩
      obtain ⟨fA,ig,gJ,fF,HB⟩:=zA5 (aA (zK fA) hb) (aA (zK ig) hb) (aA (zK gJ) hb) (aA (zK fF) hb) (ak zB hb)
      (try clear hb)
      (try clear hb2)
      (try clear hk)
      (try clear hi)
      refine hK.out _ _ ⟨(au fF.out 0).trans rfl,(au fF.out 1).trans rfl,(au fA.out 0).trans rfl,(au fA.out 1).trans rfl⟩ (fun hHeld => ?_)
      clear hK K
      refine aaN (a' := ?_) ?_ ?_
      rotate_left
      ·show Act.put _ (some 21) _=_
       simp only [Act.put,List.setIfInBounds_toArray,List.set_cons_zero,List.set_cons_succ,bY,dw]
       rfl
      refine abP (i:=4) (N:=some 22) #[true,true,true,true,true,false] rfl rfl (by kernel_rfl) (by decide) (fun K hK => ?_)
      refine aaO Tryz.func119 (by kernel_rfl) rfl #[.agg #[.int .u64 nC,.int .u64 lC],.int .u64 afv] (by rfl) rfl rfl zL ?_
      with_reducible refine (dI.calls nC lC afv aao aaM _ A31.out).mono ?_
      rintro e w37 ⟨rfl,hb⟩
      refine ⟨_,rfl,?_⟩
      obtain ⟨fA,ig,gJ,fF,HB⟩:=zA5 (aA (zK fA) hb) (aA (zK ig) hb) (aA (zK gJ) hb) (aA (zK fF) hb) (ak zB hb)
      (try clear hb)
      (try clear hb2)
      (try clear hk)
      (try clear hi)
      refine hK.out _ _ ⟨(au fF.out 0).trans rfl,(au fF.out 1).trans rfl,(au fA.out 0).trans rfl,(au fA.out 1).trans rfl⟩ (fun hHeld => ?_)
      clear hK K
      refine aaN (a' := ?_) ?_ ?_
      rotate_left
      ·show Act.put _ (some 22) _=_
       simp only [Act.put,List.setIfInBounds_toArray,List.set_cons_zero,List.set_cons_succ,bY,dw]
       rfl
      refine akb (i:=5) (N:=none) #[true,true,true,true,true,true] rfl rfl (by kernel_rfl) (by decide) (fun K hK => ?_)
      have aEF:w37.cell? ⟨rW,0,none⟩=some (.int .u64 nC):=(au fF.out 0).trans rfl
      have aDk:=aN fF.out 0
      have az7:=tK.out
      have az8:=oD.out
      have az9:=qH.out
      have aAa:=tN.out
      have aAb:=l9.out
      have aAc:=qX.out
      have aEG:w37.cell? ⟨rW,1,none⟩=some (.int .u64 lC):=(au fF.out 1).trans rfl
      have aDl:=aN fF.out 1
      have aAd:=tK.out
      have aAe:=oD.out
      have aAf:=qH.out
      have aAg:=tN.out
      have aAh:=l9.out
      have aAi:=qX.out
      refine ahd (w1 := ?_) (by rfl) rfl ?_ ?_
      rotate_left
      ·go_simp
       rfl
      refine hK.out _ _ ?_
      clear hK K
      refine afA (by kernel_rfl) ?_
      have asM:=aa6.out
      have asN:=aa5.out
      have awp:=qG.out
      have awq:=xC.out
      have aDm:=qH.out
      have aDn:=qX.out
      obtain ⟨_,_⟩:=zC2 gJ.out
      obtain ⟨_,_⟩:=zF2 gJ.out
      try go_wp2_with (first|((with_reducible refine ay (f:=119) rfl ?_);refine aH (some 24) rfl rfl Tryz.func119 (by kernel_rfl) rfl #[.agg #[.int .u64 pG,.int .u64 oG],.int .u64 0] rfl zL ?_;(with_reducible refine (dI.calls pG oG 0 ad9 ag9 _ A32.out).mono ?_);rintro e w44 ⟨rfl,hb⟩;refine ⟨_,rfl,?_⟩;obtain ⟨fA,ig,gJ,fF,HB⟩:=zA5 (aA (zK fA) hb) (aA (zK ig) hb) (aA (zK gJ) hb) (aA (g:=rW) (o := .cells #[.int .u64 aao,.int .u64 aaM] 179 (0,0)) (by refine zD ?_;refine aY (cs := #[.int .u64 aao,.int .u64 lC]) ?_ 1 _ rfl;refine zD ?_;refine aY (cs := #[.int .u64 nC,.int .u64 lC]) ?_ 0 _ rfl;refine zD ?_;exact fF.out) hb) (ak zB hb);(try clear hb);obtain ⟨_,_⟩:=zC2 gJ.out;obtain ⟨_,_⟩:=zF2 gJ.out;have asO:=tN.out;have asP:=tK.out;have awt:=l9.out;have awu:=oD.out;obtain ⟨_,_⟩:=zC2 fF.out;obtain ⟨_,_⟩:=zF2 fF.out)|((with_reducible refine ay (f:=123) rfl ?_);refine aH (some 28) rfl rfl Tryz.func123 (by kernel_rfl) rfl #[.agg #[.int .u64 aao,.int .u64 aaM],.agg #[.int .u64 0,.int .u64 a1]] rfl zL ?_;(with_reducible refine (iC.calls aao aaM 0 a1 true _ A33.out).mono ?_);rintro e w49 ⟨rfl,hb⟩;refine ⟨_,rfl,?_⟩;obtain ⟨fA,ig,gJ,fF,HB⟩:=zA5 (aA (zK fA) hb) (aA (zK ig) hb) (aA (g:=uH) (o := .cells #[.int .u64 ad9,.int .u64 ag9] 179 (0,0)) (by refine zD ?_;refine aY (cs := #[.int .u64 ad9,.int .u64 oG]) ?_ 1 _ rfl;refine zD ?_;refine aY (cs := #[.int .u64 pG,.int .u64 oG]) ?_ 0 _ rfl;refine zD ?_;exact gJ.out) hb) (aA (zK fF) hb) (ak zB hb);(try clear hb)))
      go_roundg k1
      case measure=>have:=HK1.out;omega
      case rel=>exact ⟨(wrap64 (iy - 1)),(ad9),(ag9),(aao),(aaM),zT,H',⟨by have:=HK1.out;omega⟩,⟨zK fA⟩,⟨zK ig⟩,⟨zK gJ⟩,⟨zK fF⟩,⟨zB⟩⟩
     ·replace c34:=Bool.eq_false_iff.mpr c34
      subst c34
      rw [if_neg (show ¬ (false=true) by decide)] at H;try dsimp only at H
      replace H:=zO H
      obtain ⟨⟨asj,avU⟩,A50,H⟩:=H
      try dsimp only at H
      have H':=aj.mk H
      clear H
      try go_wp2
      obtain ⟨fA,ig,gJ,fF,HB⟩:=zA5 (kH fA.out) (kH ig.out) (kH gJ.out) (kH fF.out) (aZ HB.out)
      refine ade (n:=6) (S:=fun w'=>w'.cell? ⟨rW,0,none⟩=some (.int .u64 nC)∧w'.cell? ⟨rW,1,none⟩=some (.int .u64 lC)∧w'.cell? ⟨afX,0,none⟩=some (.int .u64 bn)∧w'.cell? ⟨afX,1,none⟩=some (.int .u64 bT)) (ds:=[5]) #[false,false,false,false,false,false] (by kernel_rfl) rfl rfl ⟨(au fF.out 0).trans rfl,(au fF.out 1).trans rfl,(au fA.out 0).trans rfl,(au fA.out 1).trans rfl⟩ (fun hHeld => ?_)
      generalize wr.drew=w51 at fA ig gJ fF HB hHeld ⊢
      refine yA (i:=2) (N:=some 20) (v := ?_) (a' := ?_) #[false,false,true,false,false,false] rfl rfl (by kernel_rfl) (fun _ _ _ h=>h) (Or.inl ⟨by rfl,?_⟩) ?_ ?_
      rotate_left
      ·intro w'
       go_simp
       with_reducible rfl
      rotate_left
      ·simp only [Act.put,List.setIfInBounds_toArray,List.set_cons_zero,List.set_cons_succ,bY,dw]
       rfl
      refine zu (i:=0) (N:=some 18) (v := ?_) (a' := ?_) #[true,false,true,false,false,false] rfl rfl (by kernel_rfl) (fun _ _ _ h=>h) (Or.inl ⟨by rfl,?_⟩) hHeld ?_ ?_
      rotate_left
      ·rintro w' ⟨s0,s1,s2,s3⟩
       go_simp
       with_reducible rfl
      rotate_left
      ·simp only [Act.put,List.setIfInBounds_toArray,List.set_cons_zero,List.set_cons_succ,bY,dw]
       rfl
      refine zu (i:=1) (N:=some 19) (v := ?_) (a' := ?_) #[true,true,true,false,false,false] rfl rfl (by kernel_rfl) (fun _ _ _ h=>h) (Or.inl ⟨by rfl,?_⟩) hHeld ?_ ?_
      rotate_left
      ·rintro w' ⟨s0,s1,s2,s3⟩
       go_simp
       with_reducible rfl
      rotate_left
      ·simp only [Act.put,List.setIfInBounds_toArray,List.set_cons_zero,List.set_cons_succ,bY,dw]
       rfl
      refine abP (i:=3) (N:=some 21) #[true,true,true,true,false,false] rfl rfl (by kernel_rfl) (by decide) (fun K hK => ?_)
      refine aaO Tryz.func121 (by kernel_rfl) rfl #[.agg #[.int .u64 bn,.int .u64 bT],.int .i64 iy] (by rfl) rfl rfl zL ?_
      with_reducible refine (fJ.calls bn bT iy afv _ A30.out).mono ?_
      rintro e w52 ⟨rfl,hb⟩
      refine ⟨_,rfl,?_⟩
      obtain ⟨fA,ig,gJ,fF,HB⟩:=zA5 (aA (zK fA) hb) (aA (zK ig) hb) (aA (zK gJ) hb) (aA (zK fF) hb) (ak zB hb)
      (try clear hb)
      (try clear hb2)
      (try clear hk)
      (try clear hi)
      refine hK.out _ _ ⟨(au fF.out 0).trans rfl,(au fF.out 1).trans rfl,(au fA.out 0).trans rfl,(au fA.out 1).trans rfl⟩ (fun hHeld => ?_)
      clear hK K
      refine aaN (a' := ?_) ?_ ?_
      rotate_left
      ·show Act.put _ (some 21) _=_
       simp only [Act.put,List.setIfInBounds_toArray,List.set_cons_zero,List.set_cons_succ,bY,dw]
       rfl
      refine abP (i:=4) (N:=some 22) #[true,true,true,true,true,false] rfl rfl (by kernel_rfl) (by decide) (fun K hK => ?_)
      refine aaO Tryz.func119 (by kernel_rfl) rfl #[.agg #[.int .u64 nC,.int .u64 lC],.int .u64 afv] (by rfl) rfl rfl zL ?_
      with_reducible refine (dI.calls nC lC afv aao aaM _ A31.out).mono ?_
      rintro e w53 ⟨rfl,hb⟩
      refine ⟨_,rfl,?_⟩
      obtain ⟨fA,ig,gJ,fF,HB⟩:=zA5 (aA (zK fA) hb) (aA (zK ig) hb) (aA (zK gJ) hb) (aA (zK fF) hb) (ak zB hb)
      (try clear hb)
      (try clear hb2)
      (try clear hk)
      (try clear hi)
      refine hK.out _ _ ⟨(au fF.out 0).trans rfl,(au fF.out 1).trans rfl,(au fA.out 0).trans rfl,(au fA.out 1).trans rfl⟩ (fun hHeld => ?_)
      clear hK K
      refine aaN (a' := ?_) ?_ ?_
      rotate_left
      ·show Act.put _ (some 22) _=_
       simp only [Act.put,List.setIfInBounds_toArray,List.set_cons_zero,List.set_cons_succ,bY,dw]
       rfl
      refine akb (i:=5) (N:=none) #[true,true,true,true,true,true] rfl rfl (by kernel_rfl) (by decide) (fun K hK => ?_)
      have aEH:w53.cell? ⟨rW,0,none⟩=some (.int .u64 nC):=(au fF.out 0).trans rfl
      have aDo:=aN fF.out 0
      have aAj:=tK.out
      have aAk:=oD.out
      have aAl:=qH.out
      have aAm:=tN.out
      have aAn:=l9.out
      have aAo:=qX.out
      have aEI:w53.cell? ⟨rW,1,none⟩=some (.int .u64 lC):=(au fF.out 1).trans rfl
      have aDp:=aN fF.out 1
      have aAp:=tK.out
      have aAq:=oD.out
      have aAr:=qH.out
      have aAs:=tN.out
      have aAt:=l9.out
      have aAu:=qX.out
      refine ahd (w1 := ?_) (by rfl) rfl ?_ ?_
      rotate_left
      ·go_simp
       rfl
      refine hK.out _ _ ?_
      clear hK K
      refine afA (by kernel_rfl) ?_
      have aDq:=aa6.out
      have aDr:=aa5.out
      have aDs:=qG.out
      have aDt:=xC.out
      have awH:=qH.out
      have awI:=qX.out
      obtain ⟨_,_⟩:=zC2 gJ.out
      obtain ⟨_,_⟩:=zF2 gJ.out
      try go_wp2_with (first|((with_reducible refine ay (f:=119) rfl ?_);refine aH (some 24) rfl rfl Tryz.func119 (by kernel_rfl) rfl #[.agg #[.int .u64 pG,.int .u64 oG],.int .u64 0] rfl zL ?_;(with_reducible refine (dI.calls pG oG 0 ad9 ag9 _ A32.out).mono ?_);rintro e w60 ⟨rfl,hb⟩;refine ⟨_,rfl,?_⟩;obtain ⟨fA,ig,gJ,fF,HB⟩:=zA5 (aA (zK fA) hb) (aA (zK ig) hb) (aA (zK gJ) hb) (aA (g:=rW) (o := .cells #[.int .u64 aao,.int .u64 aaM] 179 (0,0)) (by refine zD ?_;refine aY (cs := #[.int .u64 aao,.int .u64 lC]) ?_ 1 _ rfl;refine zD ?_;refine aY (cs := #[.int .u64 nC,.int .u64 lC]) ?_ 0 _ rfl;refine zD ?_;exact fF.out) hb) (ak zB hb);(try clear hb);obtain ⟨_,_⟩:=zC2 gJ.out;obtain ⟨_,_⟩:=zF2 gJ.out;have awy:=tN.out;have awz:=tK.out;have awC:=l9.out;have awD:=oD.out;obtain ⟨_,_⟩:=zC2 fF.out;obtain ⟨_,_⟩:=zF2 fF.out)|((with_reducible refine ay (f:=123) rfl ?_);refine aH (some 28) rfl rfl Tryz.func123 (by kernel_rfl) rfl #[.agg #[.int .u64 aao,.int .u64 aaM],.agg #[.int .u64 0,.int .u64 a1]] rfl zL ?_;(with_reducible refine (iC.calls aao aaM 0 a1 false _ A33.out).mono ?_);rintro e w65 ⟨rfl,hb⟩;refine ⟨_,rfl,?_⟩;obtain ⟨fA,ig,gJ,fF,HB⟩:=zA5 (aA (zK fA) hb) (aA (zK ig) hb) (aA (g:=uH) (o := .cells #[.int .u64 ad9,.int .u64 ag9] 179 (0,0)) (by refine zD ?_;refine aY (cs := #[.int .u64 ad9,.int .u64 oG]) ?_ 1 _ rfl;refine zD ?_;refine aY (cs := #[.int .u64 pG,.int .u64 oG]) ?_ 0 _ rfl;refine zD ?_;exact gJ.out) hb) (aA (zK fF) hb) (ak zB hb);(try clear hb);obtain ⟨_,_⟩:=zC2 fF.out;obtain ⟨_,_⟩:=zF2 fF.out)|((with_reducible refine ay (f:=122) rfl ?_);refine aH (some 33) rfl rfl Tryz.func122 (by kernel_rfl) rfl #[.agg #[.int .u64 aao,.int .u64 aaM],.agg #[.int .u64 0,.int .u64 a1]] rfl zL ?_;(with_reducible refine (kC.calls aao aaM 0 a1 asj avU _ A50.out).mono ?_);rintro e w67 ⟨rfl,hb⟩;refine ⟨_,rfl,?_⟩;obtain ⟨fA,ig,gJ,fF,HB⟩:=zA5 (aA (zK fA) hb) (aA (zK ig) hb) (aA (zK gJ) hb) (aA (zK fF) hb) (ak zB hb);(try clear hb);obtain ⟨_,_⟩:=zC2 fF.out;obtain ⟨_,_⟩:=zF2 fF.out;obtain ⟨_,_⟩:=zC2 gJ.out;obtain ⟨_,_⟩:=zF2 gJ.out))
      go_roundg k1
      case measure=>have:=HK1.out;omega
      case rel=>exact ⟨(wrap64 (iy - 1)),(ad9),(IntKind.u64.wrap (ag9+1)),(asj),(avU),zT,H',⟨by have:=HK1.out;omega⟩,⟨zK fA⟩,⟨zK ig⟩,⟨by refine zD ?_;refine aY (cs := #[.int .u64 ad9,.int .u64 ag9]) ?_ 1 _ rfl;refine zD ?_;refine kR ?_ qH.out _;refine zD ?_;refine kR ?_ qH.out _;refine zD ?_;exact gJ.out⟩,⟨by refine zD ?_;refine kR ?_ qX.out _;refine zD ?_;refine aY (cs := #[.int .u64 asj,.int .u64 aaM]) ?_ 1 _ rfl;refine zD ?_;refine aY (cs := #[.int .u64 aao,.int .u64 aaM]) ?_ 0 _ rfl;refine zD ?_;exact fF.out⟩,⟨zB⟩⟩
    ·rw [if_neg c29] at H
     have an8:=decide_eq_false c29
     clear c29
     simp only [Option.some.injEq,Prod.mk.injEq] at H
     obtain ⟨rfl,rfl,rfl⟩:=H
     try go_wp2
     obtain ⟨fA,ig,gJ,fF,HB⟩:=zA5 (kH fA.out) (kH ig.out) (kH gJ.out) (kH fF.out) (aZ HB.out)
     refine ade (n:=5) (S:=fun w'=>w'.cell? ⟨uH,0,none⟩=some (.int .u64 pG)∧w'.cell? ⟨uH,1,none⟩=some (.int .u64 oG)∧w'.cell? ⟨rW,0,none⟩=some (.int .u64 nC)∧w'.cell? ⟨rW,1,none⟩=some (.int .u64 lC)) (ds:=[]) #[false,false,false,false,false] (by kernel_rfl) rfl rfl ⟨(au gJ.out 0).trans rfl,(au gJ.out 1).trans rfl,(au fF.out 0).trans rfl,(au fF.out 1).trans rfl⟩ (fun hHeld => ?_)
     generalize wr.drew=w70 at fA ig gJ fF HB hHeld ⊢
     refine yA (i:=1) (N:=some 39) (v := ?_) (a' := ?_) #[false,true,false,false,false] rfl rfl (by kernel_rfl) (fun _ _ _ h=>h) (Or.inl ⟨by rfl,?_⟩) ?_ ?_
     rotate_left
     ·intro w'
      go_simp
      with_reducible rfl
     rotate_left
     ·simp only [Act.put,List.setIfInBounds_toArray,List.set_cons_zero,List.set_cons_succ,bY,dw]
      rfl
     refine zu (i:=0) (N:=some 38) (v := ?_) (a' := ?_) #[true,true,false,false,false] rfl rfl (by kernel_rfl) (fun _ _ _ h=>h) (Or.inl ⟨by rfl,?_⟩) hHeld ?_ ?_
     rotate_left
     ·rintro w' ⟨s0,s1,s2,s3⟩
      go_simp
      with_reducible rfl
     rotate_left
     ·simp only [Act.put,List.setIfInBounds_toArray,List.set_cons_zero,List.set_cons_succ,bY,dw]
      rfl
     refine zu (i:=2) (N:=some 40) (v := ?_) (a' := ?_) #[true,true,true,false,false] rfl rfl (by kernel_rfl) (fun _ _ _ h=>h) (Or.inl ⟨by rfl,?_⟩) hHeld ?_ ?_
     rotate_left
     ·rintro w' ⟨s0,s1,s2,s3⟩
      go_simp
      with_reducible rfl
     rotate_left
     ·simp only [Act.put,List.setIfInBounds_toArray,List.set_cons_zero,List.set_cons_succ,bY,dw]
      rfl
     refine abP (i:=3) (N:=none) #[true,true,true,true,false] rfl rfl (by kernel_rfl) (by decide) (fun K hK => ?_)
     have aEJ:w70.cell? ⟨wS,0,none⟩=some (.int .u64 0):=(au ig.out 0).trans rfl
     have aDu:=aN ig.out 0
     have aAv:=acS.out
     have aAw:=qG.out
     have aAx:=l9.out
     have aAy:=acT.out
     have aAz:=xC.out
     have aAA:=oD.out
     have aEK:w70.cell? ⟨wS,1,none⟩=some (.int .u64 0):=(au ig.out 1).trans rfl
     have aDv:=aN ig.out 1
     have aAB:=acS.out
     have aAC:=qG.out
     have aAD:=l9.out
     have aAE:=acT.out
     have aAF:=xC.out
     have aAG:=oD.out
     refine ahd (w1 := ?_) (by rfl) rfl ?_ ?_
     rotate_left
     ·go_simp
      rfl
     refine hK.out _ _ ⟨((cell_far (p:=⟨wS,_,none⟩) qG.out _).trans (((cell_far (p:=⟨wS,_,none⟩) qG.out _).trans (hHeld.1)))),((cell_far (p:=⟨wS,_,none⟩) qG.out _).trans (((cell_far (p:=⟨wS,_,none⟩) qG.out _).trans (hHeld.2.1)))),((cell_far (p:=⟨wS,_,none⟩) l9.out _).trans (((cell_far (p:=⟨wS,_,none⟩) l9.out _).trans (hHeld.2.2.1)))),((cell_far (p:=⟨wS,_,none⟩) l9.out _).trans (((cell_far (p:=⟨wS,_,none⟩) l9.out _).trans (hHeld.2.2.2))))⟩ (fun hHeld => ?_)
     clear hK K
     refine yA (i:=4) (N:=some 5) (v := ?_) (a' := ?_) #[true,true,true,true,true] rfl rfl (by kernel_rfl) (fun _ _ _ h=>h) (Or.inl ⟨by rfl,?_⟩) ?_ ?_
     rotate_left
     ·intro w'
      go_simp
      with_reducible rfl
     rotate_left
     ·simp only [Act.put,List.setIfInBounds_toArray,List.set_cons_zero,List.set_cons_succ,bY,dw]
      rfl
     refine afA (by kernel_rfl) ?_
     try go_wp2
     refine bodyPost_ret (ahe rfl _ _ wS 179 #[.int .u64 pG,.int .u64 oG] (0,0) _ rfl (by refine zD ?_;refine aY (cs := #[.int .u64 pG,.int .u64 0]) ?_ 1 _ rfl;refine zD ?_;refine aY (cs := #[.int .u64 0,.int .u64 0]) ?_ 0 _ rfl;refine zD ?_;exact ig.out) Tryz.underlying179 rfl (by kernel_rfl)) rfl ?_
     exact ⟨zS,zB⟩
end Go.Proofs.YtpondkggmcmpfaaGreatDoor.QA
namespace Go.Proofs.YtpondkggmcmpfaaGreatDoor.QA
open Go.Proofs.YtpondkggmcmpfaaGreatDoor.T
open Go.RowKit Go.Proofs.YtpondkggmcmpfaaGreatDoorW.PrintWords Go.Proofs.YtpondkggmcmpfaaGreatDoorW.PrintLast Go.Proofs.YtpondkggmcmpfaaGreatDoorW.PrintMore
attribute [local go_sem] dV dP dQ fC fD
set_option linter.unusedVariables false
set_option linter.unusedSimpArgs false
def gZ.j0:Nat→Bool→Bool→Int→Int→Option (Int)
 | 0,_,_,_,_=>none
 | k+1,x2,x10,am9,ana=>if x10=true then ((gW.f am9 ana 0 1).bind fun ati=>((bU.f k ati.1 ati.2 x2).bind fun asl=>(some asl))) else ((bU.f k am9 ana x2).bind fun asn=>(some asn))
def gZ.f (k:Nat) (bn bT a1:Int) (a2:Bool):Option (Int):=(fE.f k bn bT a1).bind fun aio=>((dI.f 0 aio.2.2 0).bind fun akv=>((iC.f akv.1 akv.2 0 a1).bind fun aoU=>(if a2=true then ((iC.f 0 a1 akv.1 akv.2).bind fun aoV=>(gZ.j0 k a2 aoV aio.1 aio.2.1)) else (gZ.j0 k a2 (!aoU) aio.1 aio.2.1))))
set_option maxHeartbeats 8000000 in
set_option maxRecDepth 100000 in
theorem gZ.calls (k:Nat) (bn bT a1:Int) (a2:Bool) (r:Int) (w:World) (h:gZ.f k bn bT a1 a2=some r) :
  Calls Tryz.prog 149 #[.agg #[.int .u64 bn,.int .u64 bT],.int .u64 a1,.bool a2] w fun e w'=>e = .returned (.int .i64 r)∧Below w.heap.size w w':=by
 have yE:=Tryz.underlying179
 have HB:=aj.mk (Below.refl w.heap.size w)
 have H:=h
 clear h
 unfold gZ.f at H
 replace H:=zO H
 obtain ⟨⟨ac9,ada,aso⟩,A4,H⟩:=H
 try dsimp only at H
 replace H:=zO H
 obtain ⟨⟨afw,aha⟩,A5,H⟩:=H
 try dsimp only at H
 replace H:=zO H
 obtain ⟨aoU,A6,H⟩:=H
 try dsimp only at H
 have HC7:=aj.mk H
 clear H
 go_enter Tryz.func149,Tryz.ntmps149
 go_upto_if 25 with (first|((with_reducible refine bF (N:=3) rfl ?_);refine bG zR (N:=3) zR (cs := #[.int .u64 bn,.int .u64 bT]) (t:=179) zG ?_;intro ayi hg w8 hbox hb;obtain ⟨HB,mP,aDw,aDx⟩:=zA4 (ak zB hb) hbox (zg hg zB) (zg hg zB);clear hb hbox hg;obtain ⟨_,_⟩:=zC2 mP.out;obtain ⟨_,_⟩:=zF2 mP.out)|((with_reducible refine ay (f:=172) rfl ?_);refine aH (some 14) rfl rfl Tryz.func172 (by kernel_rfl) rfl #[.agg #[.int .u64 bn,.int .u64 bT],.int .u64 a1] rfl zL ?_;(with_reducible refine (fE.calls k bn bT a1 ac9 ada aso _ A4.out).mono ?_);rintro e w10 ⟨rfl,hb⟩;refine ⟨_,rfl,?_⟩;obtain ⟨mP,HB⟩:=zA2 (aA (zK mP) hb) (ak zB hb);(try clear hb))|((with_reducible refine bF (N:=7) rfl ?_);refine bG zR (N:=7) zR (cs := #[.int .u64 0,.int .u64 0]) (t:=179) zG ?_;intro aoW hg w11 hbox hb;obtain ⟨mP,HB,mQ,aDy,aDz,afx,afy⟩:=zA7 (aA (zK mP) hb) (ak zB hb) hbox (zg hg zB) (zg hg zB) (zl hg (zK mP)) (zr hg (zK mP));clear hb hbox hg;have aye:=afy.out;have ayf:=afx.out;obtain ⟨_,_⟩:=zC2 mQ.out;obtain ⟨_,_⟩:=zF2 mQ.out)|((with_reducible refine ay (f:=119) rfl ?_);refine aH (some 19) rfl rfl Tryz.func119 (by kernel_rfl) rfl #[.agg #[.int .u64 0,.int .u64 aso],.int .u64 0] rfl zL ?_;(with_reducible refine (dI.calls 0 aso 0 afw aha _ A5.out).mono ?_);rintro e w14 ⟨rfl,hb⟩;refine ⟨_,rfl,?_⟩;obtain ⟨mP,mQ,HB⟩:=zA3 (aA (zK mP) hb) (aA (g:=aoW) (o := .cells #[.int .u64 ac9,.int .u64 ada] 179 (0,0)) (by refine zD ?_;refine aY (cs := #[.int .u64 ac9,.int .u64 0]) ?_ 1 _ rfl;refine zD ?_;refine aY (cs := #[.int .u64 0,.int .u64 0]) ?_ 0 _ rfl;refine zD ?_;exact mQ.out) hb) (ak zB hb);(try clear hb))|((with_reducible refine bF (N:=9) rfl ?_);refine bG zR (N:=9) zR (cs := #[.int .u64 0,.int .u64 0]) (t:=179) zG ?_;intro atj hg w15 hbox hb;obtain ⟨mP,mQ,HB,tV,aDA,aDB,ajD,ajE,acU,acV⟩:=aew (aA (zK mP) hb) (aA (zK mQ) hb) (ak zB hb) hbox (zg hg zB) (zg hg zB) (zl hg (zK mP)) (zr hg (zK mP)) (zl hg (zK mQ)) (zr hg (zK mQ));clear hb hbox hg;have ayg:=ajE.out;have ayh:=ajD.out;have awh:=acV.out;have awi:=acU.out;obtain ⟨_,_⟩:=zC2 tV.out;obtain ⟨_,_⟩:=zF2 tV.out)|((with_reducible refine ay (f:=123) rfl ?_);refine aH (some 23) rfl rfl Tryz.func123 (by kernel_rfl) rfl #[.agg #[.int .u64 afw,.int .u64 aha],.agg #[.int .u64 0,.int .u64 a1]] rfl zL ?_;(with_reducible refine (iC.calls afw aha 0 a1 aoU _ A6.out).mono ?_);rintro e w19 ⟨rfl,hb⟩;refine ⟨_,rfl,?_⟩;obtain ⟨mP,mQ,tV,HB⟩:=zA4 (aA (zK mP) hb) (aA (zK mQ) hb) (aA (g:=atj) (o := .cells #[.int .u64 afw,.int .u64 aha] 179 (0,0)) (by refine zD ?_;refine aY (cs := #[.int .u64 afw,.int .u64 0]) ?_ 1 _ rfl;refine zD ?_;refine aY (cs := #[.int .u64 0,.int .u64 0]) ?_ 0 _ rfl;refine zD ?_;exact tV.out) hb) (ak zB hb);(try clear hb)))
 (try simp only [Act.put,List.setIfInBounds_toArray,List.set_cons_zero,List.set_cons_succ])
 go_cut [10] (fun v10 wc=>∃ (kq:Nat) (akw:Bool),v10 = .bool akw∧aj (gZ.j0 kq a2 akw ac9 ada=some r)∧aj (kq≤k)∧aj (wc.heap[ayi]? = some (.cells #[.int .u64 bn,.int .u64 bT] 179 (0,0)))∧aj (wc.heap[aoW]? = some (.cells #[.int .u64 ac9,.int .u64 ada] 179 (0,0)))∧aj (wc.heap[atj]? = some (.cells #[.int .u64 afw,.int .u64 aha] 179 (0,0)))∧aj (Below w.heap.size w wc))
 case first =>
  have H:=HC7.out
  clear HC7
  by_cases c20:a2=true
  ·subst c20
   rw [if_pos rfl] at H;try dsimp only at H
   replace H:=zO H
   obtain ⟨aoV,A21,H⟩:=H
   try dsimp only at H
   have H':=aj.mk H
   clear H
   have atb:=ajE.out
   have atc:=ajD.out
   have aoP:=acV.out
   have aoQ:=acU.out
   obtain ⟨_,_⟩:=zC2 tV.out
   obtain ⟨_,_⟩:=zF2 tV.out
   go_wp2_with (first|((with_reducible refine ay (f:=123) rfl ?_);refine aH (some 29) rfl rfl Tryz.func123 (by kernel_rfl) rfl #[.agg #[.int .u64 0,.int .u64 a1],.agg #[.int .u64 afw,.int .u64 aha]] rfl zL ?_;(with_reducible refine (iC.calls 0 a1 afw aha aoV _ A21.out).mono ?_);rintro e w25 ⟨rfl,hb⟩;refine ⟨_,rfl,?_⟩;obtain ⟨mP,mQ,tV,HB⟩:=zA4 (aA (zK mP) hb) (aA (zK mQ) hb) (aA (zK tV) hb) (ak zB hb);(try clear hb)))
   go_meet
   case rel=>exact ⟨_,(aoV),zT,H',⟨by first|omega|exact Nat.le_refl _⟩,⟨zK mP⟩,⟨zK mQ⟩,⟨zK tV⟩,⟨zB⟩⟩
  ·replace c20:=Bool.eq_false_iff.mpr c20
   subst c20
   rw [if_neg (show ¬ (false=true) by decide)] at H;try dsimp only at H
   have H':=aj.mk H
   clear H
   go_wp2
   go_meet
   case rel=>exact ⟨_,(!aoU),zT,H',⟨by first|omega|exact Nat.le_refl _⟩,⟨zK mP⟩,⟨zK mQ⟩,⟨zK tV⟩,⟨zB⟩⟩
 case rest =>
  clear HC7
  obtain ⟨kq,akw,rfl,HA,HJ6,mP,mQ,tV,HB⟩:=hcut
  cases kq with
  | zero=>exact absurd HA.out (by simp [gZ.j0])
  | succ kj6 =>
   have H:=HA.out
   clear HA
   simp only [gZ.j0] at H
   by_cases c26:akw=true
   ·subst c26
    rw [if_pos rfl] at H;try dsimp only at H
    replace H:=zO H
    obtain ⟨⟨amf,aoX⟩,A27,H⟩:=H
    try dsimp only at H
    replace H:=zO H
    obtain ⟨asl,A28,H⟩:=H
    try dsimp only at H
    obtain rfl:=Option.some.inj H
    have anO:=afy.out
    have anP:=afx.out
    have atd:=acU.out
    have ate:=acV.out
    obtain ⟨_,_⟩:=zC2 mQ.out
    obtain ⟨_,_⟩:=zF2 mQ.out
    go_wp2_with (first|((with_reducible refine ay (f:=124) rfl ?_);refine aH (some 33) rfl rfl Tryz.func124 (by kernel_rfl) rfl #[.agg #[.int .u64 ac9,.int .u64 ada],.agg #[.int .u64 0,.int .u64 1]] rfl zL ?_;(with_reducible refine (gW.calls ac9 ada 0 1 amf aoX _ A27.out).mono ?_);rintro e w32 ⟨rfl,hb⟩;refine ⟨_,rfl,?_⟩;obtain ⟨mP,mQ,tV,HB⟩:=zA4 (aA (zK mP) hb) (aA (zK mQ) hb) (aA (zK tV) hb) (ak zB hb);(try clear hb);obtain ⟨_,_⟩:=zC2 mQ.out;obtain ⟨_,_⟩:=zF2 mQ.out)|((with_reducible refine ay (f:=125) rfl ?_);refine aH (some 36) rfl rfl Tryz.func125 (by kernel_rfl) rfl #[.agg #[.int .u64 amf,.int .u64 aoX],.bool a2] rfl zL ?_;(with_reducible refine (bU.calls kj6 amf aoX a2 asl _ A28.out).mono ?_);rintro e w34 ⟨rfl,hb⟩;refine ⟨_,rfl,?_⟩;obtain ⟨mP,mQ,tV,HB⟩:=zA4 (aA (zK mP) hb) (aA (g:=aoW) (o := .cells #[.int .u64 amf,.int .u64 aoX] 179 (0,0)) (by refine zD ?_;refine aY (cs := #[.int .u64 amf,.int .u64 ada]) ?_ 1 _ rfl;refine zD ?_;refine aY (cs := #[.int .u64 ac9,.int .u64 ada]) ?_ 0 _ rfl;refine zD ?_;exact mQ.out) hb) (aA (zK tV) hb) (ak zB hb);(try clear hb)))
    go_ret
    exact ⟨zS,zB⟩
   ·replace c26:=Bool.eq_false_iff.mpr c26
    subst c26
    rw [if_neg (show ¬ (false=true) by decide)] at H;try dsimp only at H
    replace H:=zO H
    obtain ⟨asn,A35,H⟩:=H
    try dsimp only at H
    obtain rfl:=Option.some.inj H
    have aDC:=afy.out
    have aDD:=afx.out
    have aDE:=acU.out
    have aDF:=acV.out
    obtain ⟨_,_⟩:=zC2 mQ.out
    obtain ⟨_,_⟩:=zF2 mQ.out
    go_wp2_with (first|((with_reducible refine ay (f:=125) rfl ?_);refine aH (some 36) rfl rfl Tryz.func125 (by kernel_rfl) rfl #[.agg #[.int .u64 ac9,.int .u64 ada],.bool a2] rfl zL ?_;(with_reducible refine (bU.calls kj6 ac9 ada a2 asn _ A35.out).mono ?_);rintro e w39 ⟨rfl,hb⟩;refine ⟨_,rfl,?_⟩;obtain ⟨mP,mQ,tV,HB⟩:=zA4 (aA (zK mP) hb) (aA (zK mQ) hb) (aA (zK tV) hb) (ak zB hb);(try clear hb)))
    go_ret
    exact ⟨zS,zB⟩
def aX.f (k:Nat) (a0 a1 a2:Int):Option (Int):=if a2=0 then (some 0) else ((dK.f a0).bind fun amg=>((dK.f a1).bind fun amh=>((dR.f k amg amh).bind fun atl=>((dK.f a2).bind fun ami=>((gZ.f k atl.1 atl.2 ami (((decide (a0 < 0)) != (decide (a1 < 0))) != (decide (a2 < 0)))).bind fun asq=>(some asq))))))
def aX.T5:Bool × List (List Nat × List Nat):=(true,[([],[]),([],[]),([1],[1]),([],[]),([],[]),([4],[4]),([3,5],[3,5]),([0,2,6,2],[0,2,6]),([7,7,0,1,2,3,4,5,6,7],[7])])
def aX.B5:List Nat:=[0,0,2,0,0,16,56,127,255]
theorem aX.azK:uh .any (opsOf Tryz.f118 5)=aX.T5:=by kernel_rfl
theorem aX.ayj:adk aX.T5.2 aX.B5=true:=by kernel_rfl
set_option maxHeartbeats 8000000 in
set_option maxRecDepth 100000 in
theorem aX.calls (k:Nat) (a0 a1 a2 r:Int) (w:World) (h:aX.f k a0 a1 a2=some r) :
  Calls Tryz.prog 118 #[.int .i64 a0,.int .i64 a1,.int .i64 a2] w fun e w'=>e = .returned (.int .i64 r)∧Below w.heap.size w w':=by
 have yE:=Tryz.underlying179
 have HB:=aj.mk (Below.refl w.heap.size w)
 have H:=h
 clear h
 unfold aX.f at H
 by_cases c4:a2=0
 ·rw [if_pos c4] at H
  have fB:(a2 == 0)=true:=beq_iff_eq.mpr c4
  have aaI:(a2 != 0)=false:=bne_eq_false_iff_eq.mpr c4
  clear c4
  obtain rfl:=Option.some.inj H
  go_enter Tryz.func118,Tryz.ntmps118
  go_wp2
  go_ret
  exact ⟨zS,zB⟩
 ·rw [if_neg c4] at H
  have fB:(a2 == 0)=false:=beq_eq_false_iff_ne.mpr c4
  have aaI:(a2 != 0)=true:=bne_iff_ne.mpr c4
  replace H:=zO H
  obtain ⟨amg,A5,H⟩:=H
  try dsimp only at H
  replace H:=zO H
  obtain ⟨amh,A6,H⟩:=H
  try dsimp only at H
  replace H:=zO H
  obtain ⟨⟨aea,afz⟩,A7,H⟩:=H
  try dsimp only at H
  replace H:=zO H
  obtain ⟨ami,A8,H⟩:=H
  try dsimp only at H
  replace H:=zO H
  obtain ⟨asq,A9,H⟩:=H
  try dsimp only at H
  obtain rfl:=Option.some.inj H
  go_enter Tryz.func118,Tryz.ntmps118
  try go_wp2_with (first|((with_reducible refine ay (f:=120) rfl ?_);refine aH (some 12) rfl rfl Tryz.func120 (by kernel_rfl) rfl #[.int .i64 a0] rfl zL ?_;(with_reducible refine (dK.calls a0 amg _ A5.out).mono ?_);rintro e w' ⟨rfl,⟨nd,rfl⟩⟩;refine ⟨_,rfl,?_⟩)|((with_reducible refine ay (f:=120) rfl ?_);refine aH (some 14) rfl rfl Tryz.func120 (by kernel_rfl) rfl #[.int .i64 a1] rfl zL ?_;(with_reducible refine (dK.calls a1 amh _ A6.out).mono ?_);rintro e w' ⟨rfl,⟨nd,rfl⟩⟩;refine ⟨_,rfl,?_⟩)|((with_reducible refine ay (f:=148) rfl ?_);refine aH (some 15) rfl rfl Tryz.func148 (by kernel_rfl) rfl #[.int .u64 amg,.int .u64 amh] rfl zL ?_;(with_reducible refine (dR.calls k amg amh aea afz _ A7.out).mono ?_);rintro e w10 ⟨rfl,hb⟩;refine ⟨_,rfl,?_⟩;replace HB:=aj.mk (ak zB hb);(try clear hb))|((with_reducible refine bF (N:=7) rfl ?_);refine bG zR (N:=7) zR (cs := #[.int .u64 0,.int .u64 0]) (t:=179) zG ?_;intro abI hg w11 hbox hb;obtain ⟨HB,uI,aDG,aDH⟩:=zA4 (ak zB hb) hbox (zg hg zB) (zg hg zB);clear hb hbox hg;obtain ⟨_,_⟩:=zC2 uI.out;obtain ⟨_,_⟩:=zF2 uI.out))
  have n0_:aj (((w11.setCell ⟨abI,0,none⟩ (.int .u64 aea)).setCell ⟨abI,1,none⟩ (.int .u64 afz)).heap[abI]? = some (.cells #[.int .u64 aea,.int .u64 afz] 179 (0,0))):=⟨by refine zD ?_;refine aY (cs := #[.int .u64 aea,.int .u64 0]) ?_ 1 _ rfl;refine zD ?_;refine aY (cs := #[.int .u64 0,.int .u64 0]) ?_ 0 _ rfl;refine zD ?_;exact uI.out⟩
  have n1_:aj (Below w.heap.size w ((w11.setCell ⟨abI,0,none⟩ (.int .u64 aea)).setCell ⟨abI,1,none⟩ (.int .u64 afz))):=⟨zB⟩
  (try clear uI)
  (try clear HB)
  generalize ((w11.setCell ⟨abI,0,none⟩ (.int .u64 aea)).setCell ⟨abI,1,none⟩ (.int .u64 afz))=w13 at n0_ n1_ ⊢
  have uI:=n0_
  have HB:=n1_
  clear n0_ n1_
  obtain ⟨uI,HB⟩:=zA2 (kH uI.out) (aZ HB.out)
  refine ade (n:=9) (S:=fun w'=>w'.cell? ⟨abI,0,none⟩=some (.int .u64 aea)∧w'.cell? ⟨abI,1,none⟩=some (.int .u64 afz)) (ds:=[]) #[false,false,false,false,false,false,false,false,false] (by kernel_rfl) rfl rfl ⟨(au uI.out 0).trans rfl,(au uI.out 1).trans rfl⟩ (fun hHeld => ?_);refine ao9 aX.azK aX.ayj (fun HT_ HW_ => ?_)
  generalize w13.drew=w14 at uI HB hHeld ⊢
  refine yA (i:=1) (N:=some 22) (v := ?_) (a' := ?_) #[false,true,false,false,false,false,false,false,false] rfl rfl (adi HT_.out (by kernel_rfl)) (fun _ _ _ h=>h) (Or.inl ⟨by rfl,?_⟩) ?_ ?_
  rotate_left
  ·intro w'
   go_simp
   with_reducible rfl
  rotate_left
  ·simp only [Act.put,List.setIfInBounds_toArray,List.set_cons_zero,List.set_cons_succ,bY,dw]
   rfl
  refine yA (i:=3) (N:=some 24) (v := ?_) (a' := ?_) #[false,true,false,true,false,false,false,false,false] rfl rfl (adi HT_.out (by kernel_rfl)) (fun _ _ _ h=>h) (Or.inl ⟨by rfl,?_⟩) ?_ ?_
  rotate_left
  ·intro w'
   go_simp
   with_reducible rfl
  rotate_left
  ·simp only [Act.put,List.setIfInBounds_toArray,List.set_cons_zero,List.set_cons_succ,bY,dw]
   rfl
  refine yA (i:=4) (N:=some 25) (v := ?_) (a' := ?_) #[false,true,false,true,true,false,false,false,false] rfl rfl (adi HT_.out (by kernel_rfl)) (fun _ _ _ h=>h) (Or.inl ⟨by rfl,?_⟩) ?_ ?_
  rotate_left
  ·intro w'
   go_simp
   with_reducible rfl
  rotate_left
  ·simp only [Act.put,List.setIfInBounds_toArray,List.set_cons_zero,List.set_cons_succ,bY,dw]
   rfl
  refine yA (i:=5) (N:=some 26) (v := ?_) (a' := ?_) #[false,true,false,true,true,true,false,false,false] rfl rfl (adi HT_.out (by kernel_rfl)) (fun _ _ _ h=>h) (Or.inl ⟨by rfl,?_⟩) ?_ ?_
  rotate_left
  ·intro w'
   go_simp
   with_reducible rfl
  rotate_left
  ·simp only [Act.put,List.setIfInBounds_toArray,List.set_cons_zero,List.set_cons_succ,bY,dw]
   rfl
  refine yA (i:=6) (N:=some 27) (v := ?_) (a' := ?_) #[false,true,false,true,true,true,true,false,false] rfl rfl (adi HT_.out (by kernel_rfl)) (fun _ _ _ h=>h) (Or.inl ⟨by rfl,?_⟩) ?_ ?_
  rotate_left
  ·intro w'
   go_simp
   with_reducible rfl
  rotate_left
  ·simp only [Act.put,List.setIfInBounds_toArray,List.set_cons_zero,List.set_cons_succ,bY,dw]
   rfl
  refine zu (i:=0) (N:=some 21) (v := ?_) (a' := ?_) #[true,true,false,true,true,true,true,false,false] rfl rfl (apX HT_.out HW_.out (by kernel_rfl)) (fun _ _ _ h=>h) (Or.inl ⟨by rfl,?_⟩) hHeld ?_ ?_
  rotate_left
  ·rintro w' ⟨s0,s1⟩
   go_simp
   with_reducible rfl
  rotate_left
  ·simp only [Act.put,List.setIfInBounds_toArray,List.set_cons_zero,List.set_cons_succ,bY,dw]
   rfl
  refine abP (i:=2) (N:=some 23) #[true,true,true,true,true,true,true,false,false] rfl rfl (ao8 HT_.out (by kernel_rfl)) (by decide) (fun K hK => ?_)
  refine aaO Tryz.func120 (by kernel_rfl) rfl #[.int .i64 a2] (by rfl) rfl rfl zL ?_
  with_reducible refine (dK.calls a2 ami _ A8.out).mono ?_
  rintro e w' ⟨rfl,⟨nd,rfl⟩⟩
  refine ⟨_,rfl,?_⟩
  refine hK.out _ _ ⟨(au uI.out 0).trans rfl,(au uI.out 1).trans rfl⟩ (fun hHeld => ?_)
  clear hK K
  refine aaN (a' := ?_) ?_ ?_
  rotate_left
  ·show Act.put _ (some 23) _=_
   simp only [Act.put,List.setIfInBounds_toArray,List.set_cons_zero,List.set_cons_succ,bY,dw]
   rfl
  refine abP (i:=7) (N:=some 28) #[true,true,true,true,true,true,true,true,false] rfl rfl (ao8 HT_.out (by kernel_rfl)) (by decide) (fun K hK => ?_)
  refine aaO Tryz.func149 (by kernel_rfl) rfl #[.agg #[.int .u64 aea,.int .u64 afz],.int .u64 ami,.bool (((decide (a0 < 0)) != (decide (a1 < 0))) != (decide (a2 < 0)))] (by rfl) rfl rfl zL ?_
  with_reducible refine (gZ.calls k aea afz ami (((decide (a0 < 0)) != (decide (a1 < 0))) != (decide (a2 < 0))) asq _ A9.out).mono ?_
  rintro e w15 ⟨rfl,hb⟩
  refine ⟨_,rfl,?_⟩
  obtain ⟨uI,HB⟩:=zA2 (aA (zK uI) hb) (ak zB hb)
  (try clear hb)
  (try clear hb2)
  (try clear hk)
  (try clear hi)
  refine hK.out _ _ ⟨(au uI.out 0).trans rfl,(au uI.out 1).trans rfl⟩ (fun hHeld => ?_)
  clear hK K
  refine aaN (a' := ?_) ?_ ?_
  rotate_left
  ·show Act.put _ (some 28) _=_
   simp only [Act.put,List.setIfInBounds_toArray,List.set_cons_zero,List.set_cons_succ,bY,dw]
   rfl
  refine yA (i:=8) (N:=some 6) (v := ?_) (a' := ?_) #[true,true,true,true,true,true,true,true,true] rfl rfl (adi HT_.out (by kernel_rfl)) (fun _ _ _ h=>h) (Or.inl ⟨by rfl,?_⟩) ?_ ?_
  rotate_left
  ·intro w'
   go_simp
   with_reducible rfl
  rotate_left
  ·simp only [Act.put,List.setIfInBounds_toArray,List.set_cons_zero,List.set_cons_succ,bY,dw]
   rfl
  refine afA (atu HT_.out (by kernel_rfl)) ?_
  try go_wp2
  go_ret
  exact ⟨zS,zB⟩
end Go.Proofs.YtpondkggmcmpfaaGreatDoor.QA
namespace Go.Proofs.YtpondkggmcmpfaaGreatDoor.QA
open Go.Proofs.YtpondkggmcmpfaaGreatDoor.T
open Go.RowKit Go.Proofs.YtpondkggmcmpfaaGreatDoorW.PrintWords Go.Proofs.YtpondkggmcmpfaaGreatDoorW.PrintLast Go.Proofs.YtpondkggmcmpfaaGreatDoorW.PrintMore
attribute [local go_sem] dV dP dQ fC fD
set_option linter.unusedVariables false
set_option linter.unusedSimpArgs false
mutual
def bQ.j0:Nat→Int→Int→Bool→Option (Int)
 | 0,_,_,_=>none
 | k+1,x0,x1,x14=>if x14=true then (some 0) else (if x0≥(wrap64 (2*x1)) then (bQ.j1 k x0 x1 true) else (bQ.j1 k x0 x1 (decide (x0≤(wrap64 ((-2)*x1))))))
def bQ.j1:Nat→Int→Int→Bool→Option (Int)
 | 0,_,_,_=>none
 | k+1,x0,x1,x24=>if x24=true then (some 0) else (if x0 < 0 then (bQ.j2 k (wrap64 (-x0)) x1) else (bQ.j2 k x0 x1))
def bQ.j2:Nat→Int→Int→Option (Int)
 | 0,_,_=>none
 | k+1,x0,x1=>if x0 < x1 then ((aX.f k (wrap64 ((wrap64 ((wrap64 (3*(wrap64 ((wrap64 (x0*x0))*x0)))) - (wrap64 ((wrap64 (5*(wrap64 (x0*x0))))*x1))))+(wrap64 (2*(wrap64 ((wrap64 (x1*x1))*x1)))))) 1073741824 (wrap64 (2*(wrap64 ((wrap64 (x1*x1))*x1))))).bind fun asr=>(some asr)) else ((aX.f k (wrap64 ((wrap64 ((wrap64 ((wrap64 ((wrap64 (5*(wrap64 (x0*x0))))*x1)) - (wrap64 ((wrap64 (x0*x0))*x0)))) - (wrap64 ((wrap64 (8*x0))*(wrap64 (x1*x1))))))+(wrap64 (4*(wrap64 ((wrap64 (x1*x1))*x1)))))) 1073741824 (wrap64 (2*(wrap64 ((wrap64 (x1*x1))*x1))))).bind fun asu=>(some asu))
end
def bQ.f (k:Nat) (a0 a1:Int):Option (Int):=if a1 < 1 then (bQ.j0 k a0 a1 true) else (bQ.j0 k a0 a1 (decide (a1 > 262144)))
set_option maxHeartbeats 8000000 in
set_option maxRecDepth 100000 in
theorem bQ.calls (k:Nat) (a0 a1 r:Int) (w:World) (h:bQ.f k a0 a1=some r) :
  Calls Tryz.prog 170 #[.int .i64 a0,.int .i64 a1] w fun e w'=>e = .returned (.int .i64 r)∧Below w.heap.size w w':=by
 have HB:=aj.mk (Below.refl w.heap.size w)
 have H:=h
 clear h
 unfold bQ.f at H
 have HC3:=aj.mk H
 clear H
 go_enter Tryz.func170,Tryz.ntmps170
 go_upto_region 1 with (fail)
 go_cut [14] (fun v14 wc=>∃ (kq:Nat) (aaf:Bool),v14 = .bool aaf∧aj (bQ.j0 kq a0 a1 aaf=some r)∧aj (kq≤k)∧aj (Below w.heap.size w wc))
 case first =>
  have H:=HC3.out
  clear HC3
  by_cases c4:a1 < 1
  ·rw [if_pos c4] at H
   have fB:=decide_eq_true c4
   clear c4
   (first|rw [fB]|(simp only [bY,dw];rw [fB])|skip)
   have H':=aj.mk H
   clear H
   go_wp2
   go_meet
   case rel=>exact ⟨_,(true),zT,H',⟨by first|omega|exact Nat.le_refl _⟩,⟨zB⟩⟩
  ·rw [if_neg c4] at H
   have fB:=decide_eq_false c4
   clear c4
   (first|rw [fB]|(simp only [bY,dw];rw [fB])|skip)
   have H':=aj.mk H
   clear H
   go_wp2
   go_meet
   case rel=>exact ⟨_,(decide (a1 > 262144)),zT,H',⟨by first|omega|exact Nat.le_refl _⟩,⟨zB⟩⟩
 case rest =>
  clear HC3
  obtain ⟨kq,aaf,rfl,HA,HJ2,HB⟩:=hcut
  cases kq with
  | zero=>exact absurd HA.out (by simp [bQ.j0])
  | succ kj2 =>
   have H:=HA.out
   clear HA
   simp only [bQ.j0] at H
   by_cases c5:aaf=true
   ·subst c5
    rw [if_pos rfl] at H;try dsimp only at H
    obtain rfl:=Option.some.inj H
    go_wp2
    go_ret
    exact ⟨zS,zB⟩
   ·replace c5:=Bool.eq_false_iff.mpr c5
    subst c5
    rw [if_neg (show ¬ (false=true) by decide)] at H;try dsimp only at H
    have HC6:=aj.mk H
    clear H
    go_upto_region 3 with (fail)
    go_cut [24] (fun v24 wc=>∃ (kq:Nat) (akx:Bool),v24 = .bool akx∧aj (bQ.j1 kq a0 a1 akx=some r)∧aj (kq≤kj2)∧aj (Below w.heap.size w wc))
    case first =>
     have H:=HC6.out
     clear HC6
     by_cases c7:a0≥(wrap64 (2*a1))
     ·rw [if_pos c7] at H
      have jf:=decide_eq_true c7
      clear c7
      (first|rw [jf]|(simp only [bY,dw];rw [jf])|skip)
      have H':=aj.mk H
      clear H
      go_wp2
      go_meet
      case rel=>exact ⟨_,(true),zT,H',⟨by have:=HJ2.out;first|omega|exact Nat.le_refl _⟩,⟨zB⟩⟩
     ·rw [if_neg c7] at H
      have jf:=decide_eq_false c7
      clear c7
      (first|rw [jf]|(simp only [bY,dw];rw [jf])|skip)
      have H':=aj.mk H
      clear H
      go_wp2
      go_meet
      case rel=>exact ⟨_,(decide (a0≤(wrap64 ((-2)*a1)))),zT,H',⟨by have:=HJ2.out;first|omega|exact Nat.le_refl _⟩,⟨zB⟩⟩
    case rest =>
     clear HC6
     obtain ⟨kq,akx,rfl,HA,HJ5,HB⟩:=hcut
     cases kq with
     | zero=>exact absurd HA.out (by simp [bQ.j1])
     | succ kj5 =>
      have H:=HA.out
      clear HA
      simp only [bQ.j1] at H
      by_cases c8:akx=true
      ·subst c8
       rw [if_pos rfl] at H;try dsimp only at H
       obtain rfl:=Option.some.inj H
       go_wp2
       go_ret
       exact ⟨zS,zB⟩
      ·replace c8:=Bool.eq_false_iff.mpr c8
       subst c8
       rw [if_neg (show ¬ (false=true) by decide)] at H;try dsimp only at H
       have HC9:=aj.mk H
       clear H
       go_upto_if 26 with (fail)
       go_cut [0] (fun v0 wc=>∃ (kq:Nat) (qI:Int),v0 = .int .i64 qI∧aj (bQ.j2 kq qI a1=some r)∧aj (kq≤kj5)∧aj (Below w.heap.size w wc))
       case first =>
        have H:=HC9.out
        clear HC9
        by_cases c10:a0 < 0
        ·rw [if_pos c10] at H
         have pK:=decide_eq_true c10
         clear c10
         (first|rw [pK]|(simp only [bY,dw];rw [pK])|skip)
         have H':=aj.mk H
         clear H
         go_wp2
         go_meet
         case rel=>exact ⟨_,(wrap64 (-a0)),zT,H',⟨by have:=HJ2.out;have:=HJ5.out;first|omega|exact Nat.le_refl _⟩,⟨zB⟩⟩
        ·rw [if_neg c10] at H
         have pK:=decide_eq_false c10
         clear c10
         (first|rw [pK]|(simp only [bY,dw];rw [pK])|skip)
         have H':=aj.mk H
         clear H
         go_wp2
         go_meet
         case rel=>exact ⟨_,(a0),zT,H',⟨by have:=HJ2.out;have:=HJ5.out;first|omega|exact Nat.le_refl _⟩,⟨zB⟩⟩
       case rest =>
        clear HC9
        obtain ⟨kq,qI,rfl,HA,HJ8,HB⟩:=hcut
        cases kq with
        | zero=>exact absurd HA.out (by simp [bQ.j2])
        | succ kj8 =>
         have H:=HA.out
         clear HA
         simp only [bQ.j2] at H
         by_cases c11:qI < a1
         ·rw [if_pos c11] at H
          have iQ:=decide_eq_true c11
          clear c11
          replace H:=zO H
          obtain ⟨asr,A12,H⟩:=H
          try dsimp only at H
          obtain rfl:=Option.some.inj H
          go_wp2_with (first|((with_reducible refine ay (f:=118) rfl ?_);refine aH (some 56) rfl rfl Tryz.func118 (by kernel_rfl) rfl #[.int .i64 (wrap64 ((wrap64 ((wrap64 (3*(wrap64 ((wrap64 (qI*qI))*qI)))) - (wrap64 ((wrap64 (5*(wrap64 (qI*qI))))*a1))))+(wrap64 (2*(wrap64 ((wrap64 (a1*a1))*a1)))))),.int .i64 1073741824,.int .i64 (wrap64 (2*(wrap64 ((wrap64 (a1*a1))*a1))))] rfl zL ?_;(with_reducible refine (aX.calls kj8 (wrap64 ((wrap64 ((wrap64 (3*(wrap64 ((wrap64 (qI*qI))*qI)))) - (wrap64 ((wrap64 (5*(wrap64 (qI*qI))))*a1))))+(wrap64 (2*(wrap64 ((wrap64 (a1*a1))*a1)))))) 1073741824 (wrap64 (2*(wrap64 ((wrap64 (a1*a1))*a1)))) asr _ A12.out).mono ?_);rintro e w13 ⟨rfl,hb⟩;refine ⟨_,rfl,?_⟩;replace HB:=aj.mk (ak zB hb);(try clear hb)))
          go_ret
          exact ⟨zS,zB⟩
         ·rw [if_neg c11] at H
          have iQ:=decide_eq_false c11
          clear c11
          replace H:=zO H
          obtain ⟨asu,A14,H⟩:=H
          try dsimp only at H
          obtain rfl:=Option.some.inj H
          go_wp2_with (first|((with_reducible refine ay (f:=118) rfl ?_);refine aH (some 73) rfl rfl Tryz.func118 (by kernel_rfl) rfl #[.int .i64 (wrap64 ((wrap64 ((wrap64 ((wrap64 ((wrap64 (5*(wrap64 (qI*qI))))*a1)) - (wrap64 ((wrap64 (qI*qI))*qI)))) - (wrap64 ((wrap64 (8*qI))*(wrap64 (a1*a1))))))+(wrap64 (4*(wrap64 ((wrap64 (a1*a1))*a1)))))),.int .i64 1073741824,.int .i64 (wrap64 (2*(wrap64 ((wrap64 (a1*a1))*a1))))] rfl zL ?_;(with_reducible refine (aX.calls kj8 (wrap64 ((wrap64 ((wrap64 ((wrap64 ((wrap64 (5*(wrap64 (qI*qI))))*a1)) - (wrap64 ((wrap64 (qI*qI))*qI)))) - (wrap64 ((wrap64 (8*qI))*(wrap64 (a1*a1))))))+(wrap64 (4*(wrap64 ((wrap64 (a1*a1))*a1)))))) 1073741824 (wrap64 (2*(wrap64 ((wrap64 (a1*a1))*a1)))) asu _ A14.out).mono ?_);rintro e w15 ⟨rfl,hb⟩;refine ⟨_,rfl,?_⟩;replace HB:=aj.mk (ak zB hb);(try clear hb)))
          go_ret
          exact ⟨zS,zB⟩
end Go.Proofs.YtpondkggmcmpfaaGreatDoor.QA
