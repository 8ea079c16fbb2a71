/- Joined by wip/tools/bundle.py out of: QAx6 QAx7 QAx8 QAx9 QAx10 QAx11. -/
import Derived.Test.YtpondkggmcmpfaaGreatDoorBDirectFlat1
set_option maxHeartbeats 8000000
set_option maxRecDepth 100000
namespace Go.Proofs.YtpondkggmcmpfaaGreatDoor.QA
open Go.Proofs.YtpondkggmcmpfaaGreatDoor.T
open Go.RowKit Go.Proofs.YtpondkggmcmpfaaGreatDoorW.PrintWords Go.Proofs.YtpondkggmcmpfaaGreatDoorW.PrintLast Go.Proofs.YtpondkggmcmpfaaGreatDoorW.PrintMore
attribute [local go_sem] dV dN dO eP fA
set_option linter.unusedVariables false
set_option linter.unusedSimpArgs false
mutual
def aV.j2:Nat->Int->Int->Int->Int->Int->Int->Int->Int->Option (Int × Int)
 | 0,_,_,_,_,_,_,_,_=>none
 | k+1,x2,x8,x9,x10,x11,x13,x14,x15=>if x9=0 then (none) else (aV.l1 k x2 x8 x9 x10 x14 x15 (IntKind.u64.wrap ((IntKind.u64.wrap ((IntKind.u64.wrap ((IntKind.u64.wrap (x11*4294967296))+x13)) - (IntKind.u64.wrap (x15*x2)))) - (IntKind.u64.wrap ((IntKind.u64.wrap (Int.tdiv (IntKind.u64.wrap ((IntKind.u64.wrap ((IntKind.u64.wrap (x11*4294967296))+x13)) - (IntKind.u64.wrap (x15*x2)))) x9))*x9)))) (IntKind.u64.wrap ((IntKind.u64.wrap ((IntKind.u64.wrap (x11*4294967296))+x13)) - (IntKind.u64.wrap (x15*x2)))) (IntKind.u64.wrap (Int.tdiv (IntKind.u64.wrap ((IntKind.u64.wrap ((IntKind.u64.wrap (x11*4294967296))+x13)) - (IntKind.u64.wrap (x15*x2)))) x9)))
def aV.l1:Nat->Int->Int->Int->Int->Int->Int->Int->Int->Int->Option (Int × Int)
 | 0,_,_,_,_,_,_,_,_,_=>none
 | k+1,x2,x8,x9,x10,x14,x15,x16,x17,x18=>if x18>=4294967296 then (aV.j4 k x2 x8 x9 x10 x14 x15 x16 x17 x18 true) else (aV.j4 k x2 x8 x9 x10 x14 x15 x16 x17 x18 (decide ((IntKind.u64.wrap (x18*x10)) > (IntKind.u64.wrap ((IntKind.u64.wrap (4294967296*x16))+x14)))))
def aV.j4:Nat->Int->Int->Int->Int->Int->Int->Int->Int->Int->Bool->Option (Int × Int)
 | 0,_,_,_,_,_,_,_,_,_,_=>none
 | k+1,x2,x8,x9,x10,x14,x15,x16,x17,x18,x113=>if x113=true then (if (IntKind.u64.wrap (x16+x9))>=4294967296 then (if 0<=x8 then (some (IntKind.u64.wrap ((IntKind.u64.wrap (x15*4294967296))+(IntKind.u64.wrap (x18 - 1))),shr .u64 (IntKind.u64.wrap ((IntKind.u64.wrap ((IntKind.u64.wrap (x17*4294967296))+x14)) - (IntKind.u64.wrap ((IntKind.u64.wrap (x18 - 1))*x2)))) x8)) else (none)) else (aV.l1 k x2 x8 x9 x10 x14 x15 (IntKind.u64.wrap (x16+x9)) x17 (IntKind.u64.wrap (x18 - 1)))) else (if 0<=x8 then (some (IntKind.u64.wrap ((IntKind.u64.wrap (x15*4294967296))+x18),shr .u64 (IntKind.u64.wrap ((IntKind.u64.wrap ((IntKind.u64.wrap (x17*4294967296))+x14)) - (IntKind.u64.wrap (x18*x2)))) x8)) else (none))
def aV.l0:Nat->Int->Int->Int->Int->Int->Int->Int->Int->Int->Option (Int × Int)
 | 0,_,_,_,_,_,_,_,_,_=>none
 | k+1,x2,x8,x9,x10,x11,x13,x14,x15,x16=>if x15>=4294967296 then (aV.j1 k x2 x8 x9 x10 x11 x13 x14 x15 x16 true) else (aV.j1 k x2 x8 x9 x10 x11 x13 x14 x15 x16 (decide ((IntKind.u64.wrap (x15*x10)) > (IntKind.u64.wrap ((IntKind.u64.wrap (4294967296*x16))+x13)))))
def aV.j1:Nat->Int->Int->Int->Int->Int->Int->Int->Int->Int->Bool->Option (Int × Int)
 | 0,_,_,_,_,_,_,_,_,_,_=>none
 | k+1,x2,x8,x9,x10,x11,x13,x14,x15,x16,x78=>if x78=true then (if (IntKind.u64.wrap (x16+x9))>=4294967296 then (aV.j2 k x2 x8 x9 x10 x11 x13 x14 (IntKind.u64.wrap (x15 - 1))) else (aV.l0 k x2 x8 x9 x10 x11 x13 x14 (IntKind.u64.wrap (x15 - 1)) (IntKind.u64.wrap (x16+x9)))) else (aV.j2 k x2 x8 x9 x10 x11 x13 x14 x15)
end
def aV.f (k:Nat) (a0 a1 a2:Int):Option (Int × Int):=if a2=0 then (none) else (if a2<=a0 then (none) else (if a0=0 then (some (IntKind.u64.wrap (Int.tdiv a1 a2),Int.tmod a1 a2)) else ((bits_LeadingZeros64.f a2).bind fun qU=>(if 0<=(IntKind.u64.wrap (qU)) then (if 0<=(IntKind.u64.wrap (64 - (IntKind.u64.wrap (qU)))) then (if ((shl .u64 a2 (IntKind.u64.wrap (qU))) / 4294967296)=0 then (none) else (aV.l0 k (shl .u64 a2 (IntKind.u64.wrap (qU))) (IntKind.u64.wrap (qU)) ((shl .u64 a2 (IntKind.u64.wrap (qU))) / 4294967296) (Go.bits .and .u64 (shl .u64 a2 (IntKind.u64.wrap (qU))) 4294967295) (Go.bits .or .u64 (shl .u64 a0 (IntKind.u64.wrap (qU))) (shr .u64 a1 (IntKind.u64.wrap (64 - (IntKind.u64.wrap (qU)))))) ((shl .u64 a1 (IntKind.u64.wrap (qU))) / 4294967296) (Go.bits .and .u64 (shl .u64 a1 (IntKind.u64.wrap (qU))) 4294967295) (IntKind.u64.wrap (Int.tdiv (Go.bits .or .u64 (shl .u64 a0 (IntKind.u64.wrap (qU))) (shr .u64 a1 (IntKind.u64.wrap (64 - (IntKind.u64.wrap (qU)))))) ((shl .u64 a2 (IntKind.u64.wrap (qU))) / 4294967296))) (IntKind.u64.wrap ((Go.bits .or .u64 (shl .u64 a0 (IntKind.u64.wrap (qU))) (shr .u64 a1 (IntKind.u64.wrap (64 - (IntKind.u64.wrap (qU)))))) - (IntKind.u64.wrap ((IntKind.u64.wrap (Int.tdiv (Go.bits .or .u64 (shl .u64 a0 (IntKind.u64.wrap (qU))) (shr .u64 a1 (IntKind.u64.wrap (64 - (IntKind.u64.wrap (qU)))))) ((shl .u64 a2 (IntKind.u64.wrap (qU))) / 4294967296)))*((shl .u64 a2 (IntKind.u64.wrap (qU))) / 4294967296))))))) else (none)) else (none)))))
theorem aV.jg:∀ k,(∀ y0 y1 y2 y3 y4 y5 y6 y7,LeO (aV.j2 k y0 y1 y2 y3 y4 y5 y6 y7) (aV.j2 (k+1) y0 y1 y2 y3 y4 y5 y6 y7))/\(∀ y0 y1 y2 y3 y4 y5 y6 y7 y8,LeO (aV.l1 k y0 y1 y2 y3 y4 y5 y6 y7 y8) (aV.l1 (k+1) y0 y1 y2 y3 y4 y5 y6 y7 y8))/\(∀ y0 y1 y2 y3 y4 y5 y6 y7 y8 y9,LeO (aV.j4 k y0 y1 y2 y3 y4 y5 y6 y7 y8 y9) (aV.j4 (k+1) y0 y1 y2 y3 y4 y5 y6 y7 y8 y9))/\(∀ y0 y1 y2 y3 y4 y5 y6 y7 y8,LeO (aV.l0 k y0 y1 y2 y3 y4 y5 y6 y7 y8) (aV.l0 (k+1) y0 y1 y2 y3 y4 y5 y6 y7 y8))/\(∀ y0 y1 y2 y3 y4 y5 y6 y7 y8 y9,LeO (aV.j1 k y0 y1 y2 y3 y4 y5 y6 y7 y8 y9) (aV.j1 (k+1) y0 y1 y2 y3 y4 y5 y6 y7 y8 y9))
 | 0=>⟨fun _ _ _ _ _ _ _ _ r h=>by simp [aV.j2] at h,fun _ _ _ _ _ _ _ _ _ r h=>by simp [aV.l1] at h,fun _ _ _ _ _ _ _ _ _ _ r h=>by simp [aV.j4] at h,fun _ _ _ _ _ _ _ _ _ r h=>by simp [aV.l0] at h,fun _ _ _ _ _ _ _ _ _ _ r h=>by simp [aV.j1] at h⟩
 | k+1=>by
  obtain ⟨ih0,ih1,ih2,ih3,ih4⟩:=aV.jg k;refine ⟨?_,?_,?_,?_,?_⟩
  ·intro y0 y1 y2 y3 y4 y5 y6 y7;unfold aV.j2;repeat' (with_reducible first|exact ih0 _ _ _ _ _ _ _ _|exact ih1 _ _ _ _ _ _ _ _ _|exact ih2 _ _ _ _ _ _ _ _ _ _|exact ih3 _ _ _ _ _ _ _ _ _|exact ih4 _ _ _ _ _ _ _ _ _ _|exact zM|refine LeO.ite ?_ ?_|refine LeO.bind ?_ (fun _ => ?_))
  ·intro y0 y1 y2 y3 y4 y5 y6 y7 y8;unfold aV.l1;repeat' (with_reducible first|exact ih0 _ _ _ _ _ _ _ _|exact ih1 _ _ _ _ _ _ _ _ _|exact ih2 _ _ _ _ _ _ _ _ _ _|exact ih3 _ _ _ _ _ _ _ _ _|exact ih4 _ _ _ _ _ _ _ _ _ _|exact zM|refine LeO.ite ?_ ?_|refine LeO.bind ?_ (fun _ => ?_))
  ·intro y0 y1 y2 y3 y4 y5 y6 y7 y8 y9;unfold aV.j4;repeat' (with_reducible first|exact ih0 _ _ _ _ _ _ _ _|exact ih1 _ _ _ _ _ _ _ _ _|exact ih2 _ _ _ _ _ _ _ _ _ _|exact ih3 _ _ _ _ _ _ _ _ _|exact ih4 _ _ _ _ _ _ _ _ _ _|exact zM|refine LeO.ite ?_ ?_|refine LeO.bind ?_ (fun _ => ?_))
  ·intro y0 y1 y2 y3 y4 y5 y6 y7 y8;unfold aV.l0;repeat' (with_reducible first|exact ih0 _ _ _ _ _ _ _ _|exact ih1 _ _ _ _ _ _ _ _ _|exact ih2 _ _ _ _ _ _ _ _ _ _|exact ih3 _ _ _ _ _ _ _ _ _|exact ih4 _ _ _ _ _ _ _ _ _ _|exact zM|refine LeO.ite ?_ ?_|refine LeO.bind ?_ (fun _ => ?_))
  ·intro y0 y1 y2 y3 y4 y5 y6 y7 y8 y9;unfold aV.j1;repeat' (with_reducible first|exact ih0 _ _ _ _ _ _ _ _|exact ih1 _ _ _ _ _ _ _ _ _|exact ih2 _ _ _ _ _ _ _ _ _ _|exact ih3 _ _ _ _ _ _ _ _ _|exact ih4 _ _ _ _ _ _ _ _ _ _|exact zM|refine LeO.ite ?_ ?_|refine LeO.bind ?_ (fun _ => ?_))
theorem aV.mono:∀ a0 a1 a2 k,LeO (aV.f k a0 a1 a2) (aV.f (k+1) a0 a1 a2):=by
 intro a0 a1 a2 k;obtain ⟨ih0,ih1,ih2,ih3,ih4⟩:=aV.jg k;unfold aV.f;repeat' (with_reducible first|exact ih0 _ _ _ _ _ _ _ _|exact ih1 _ _ _ _ _ _ _ _ _|exact ih2 _ _ _ _ _ _ _ _ _ _|exact ih3 _ _ _ _ _ _ _ _ _|exact ih4 _ _ _ _ _ _ _ _ _ _|exact zM|refine LeO.ite ?_ ?_|refine LeO.bind ?_ (fun _ => ?_))
theorem aV.calls (k:Nat) (a0 a1 a2 r1 r2:Int) (w:World) (h:aV.f k a0 a1 a2=some (r1,r2)) :
  Calls Tryz.prog 157 #[.int .u64 a0,.int .u64 a1,.int .u64 a2] w fun e w'=>e = .returned (.tuple #[.int .u64 r1,.int .u64 r2])/\dG w w':=by
 have H:=h;clear h;unfold aV.f at H;by_cases c4:a2=0
 ·rw [if_pos c4] at H;exact absurd H (by simp)
 ·rw [if_neg c4] at H;have fG:(a2 == 0)=false:=beq_eq_false_iff_ne.mpr c4;have aaJ:(a2 != 0)=true:=bne_iff_ne.mpr c4;by_cases c5:a2<=a0
  ·rw [if_pos c5] at H;exact absurd H (by simp)
  ·rw [if_neg c5] at H;have iy:=decide_eq_false c5;clear c5;by_cases c6:a0=0
   ·rw [if_pos c6] at H;have iF:(a0 == 0)=true:=beq_iff_eq.mpr c6;have vP:(a0 != 0)=false:=bne_eq_false_iff_eq.mpr c6;clear c6;simp only [Option.some.injEq,Prod.mk.injEq] at H;obtain ⟨rfl,rfl⟩:=H;go_enter Tryz.func157,Tryz.ntmps157;go_wp2;repeat (go_quiet (fail);try go_wp2)
    go_ret2;exact ⟨zT,zW⟩
   ·rw [if_neg c6] at H;have iF:(a0 == 0)=false:=beq_eq_false_iff_ne.mpr c6;have vP:(a0 != 0)=true:=bne_iff_ne.mpr c6;replace H:=zO H;obtain ⟨qU,A7,H⟩:=H;try dsimp only at H
    obtain ⟨ji8,qW⟩:∃ j_:Int,(IntKind.u64.wrap (qU))=j_:=⟨_,rfl⟩;replace H:(if 0<=(ji8) then (if 0<=(IntKind.u64.wrap (64 - (ji8))) then (if ((shl .u64 a2 (ji8)) / 4294967296)=0 then (none) else (aV.l0 k (shl .u64 a2 (ji8)) ji8 ((shl .u64 a2 (ji8)) / 4294967296) (Go.bits .and .u64 (shl .u64 a2 (ji8)) 4294967295) (Go.bits .or .u64 (shl .u64 a0 (ji8)) (shr .u64 a1 (IntKind.u64.wrap (64 - (ji8))))) ((shl .u64 a1 (ji8)) / 4294967296) (Go.bits .and .u64 (shl .u64 a1 (ji8)) 4294967295) (IntKind.u64.wrap (Int.tdiv (Go.bits .or .u64 (shl .u64 a0 (ji8)) (shr .u64 a1 (IntKind.u64.wrap (64 - (ji8))))) ((shl .u64 a2 (ji8)) / 4294967296))) (IntKind.u64.wrap ((Go.bits .or .u64 (shl .u64 a0 (ji8)) (shr .u64 a1 (IntKind.u64.wrap (64 - (ji8))))) - (IntKind.u64.wrap ((IntKind.u64.wrap (Int.tdiv (Go.bits .or .u64 (shl .u64 a0 (ji8)) (shr .u64 a1 (IntKind.u64.wrap (64 - (ji8))))) ((shl .u64 a2 (ji8)) / 4294967296)))*((shl .u64 a2 (ji8)) / 4294967296))))))) else (none)) else (none))=some (r1,r2):=by first|(rw [qW] at H;exact H)|(simp only [qW] at H ⊢;exact H)
    (try rw [qW] at A7)
    by_cases c9:0<=(ji8)
    ·rw [if_pos c9] at H;have qH:=eq_true c9;have ab5:=decide_eq_true c9;clear c9;obtain ⟨dJ,jT⟩:∃ j_:Int,(shl .u64 a2 (ji8))=j_:=⟨_,rfl⟩;replace H:(if 0<=(IntKind.u64.wrap (64 - (ji8))) then (if ((dJ) / 4294967296)=0 then (none) else (aV.l0 k dJ ji8 ((dJ) / 4294967296) (Go.bits .and .u64 (dJ) 4294967295) (Go.bits .or .u64 (shl .u64 a0 (ji8)) (shr .u64 a1 (IntKind.u64.wrap (64 - (ji8))))) ((shl .u64 a1 (ji8)) / 4294967296) (Go.bits .and .u64 (shl .u64 a1 (ji8)) 4294967295) (IntKind.u64.wrap (Int.tdiv (Go.bits .or .u64 (shl .u64 a0 (ji8)) (shr .u64 a1 (IntKind.u64.wrap (64 - (ji8))))) ((dJ) / 4294967296))) (IntKind.u64.wrap ((Go.bits .or .u64 (shl .u64 a0 (ji8)) (shr .u64 a1 (IntKind.u64.wrap (64 - (ji8))))) - (IntKind.u64.wrap ((IntKind.u64.wrap (Int.tdiv (Go.bits .or .u64 (shl .u64 a0 (ji8)) (shr .u64 a1 (IntKind.u64.wrap (64 - (ji8))))) ((dJ) / 4294967296)))*((dJ) / 4294967296))))))) else (none))=some (r1,r2):=by first|(rw [jT] at H;exact H)|(simp only [jT] at H ⊢;exact H)
     (try rw [jT] at A7)
     have alp:(IntKind.u64.wrap (a2*2 ^ min (ji8).toNat 64))=dJ:=jT;have apO:(ji8)<=64->(IntKind.u64.wrap (a2*2 ^ (ji8).toNat))=dJ:=yX jT;have iV:=eq_true (of_decide_eq_true (by first|(with_reducible assumption)|assumption):0<=(ji8));obtain ⟨jD,pY⟩:∃ j_:Int,(shl .u64 a0 (ji8))=j_:=⟨_,rfl⟩;replace H:(if 0<=(IntKind.u64.wrap (64 - (ji8))) then (if ((dJ) / 4294967296)=0 then (none) else (aV.l0 k dJ ji8 ((dJ) / 4294967296) (Go.bits .and .u64 (dJ) 4294967295) (Go.bits .or .u64 (jD) (shr .u64 a1 (IntKind.u64.wrap (64 - (ji8))))) ((shl .u64 a1 (ji8)) / 4294967296) (Go.bits .and .u64 (shl .u64 a1 (ji8)) 4294967295) (IntKind.u64.wrap (Int.tdiv (Go.bits .or .u64 (jD) (shr .u64 a1 (IntKind.u64.wrap (64 - (ji8))))) ((dJ) / 4294967296))) (IntKind.u64.wrap ((Go.bits .or .u64 (jD) (shr .u64 a1 (IntKind.u64.wrap (64 - (ji8))))) - (IntKind.u64.wrap ((IntKind.u64.wrap (Int.tdiv (Go.bits .or .u64 (jD) (shr .u64 a1 (IntKind.u64.wrap (64 - (ji8))))) ((dJ) / 4294967296)))*((dJ) / 4294967296))))))) else (none))=some (r1,r2):=by first|(rw [pY] at H;exact H)|(simp only [pY] at H ⊢;exact H)
     (try rw [pY] at A7)
     have avT:(IntKind.u64.wrap (a0*2 ^ min (ji8).toNat 64))=jD:=pY;have aBf:(ji8)<=64->(IntKind.u64.wrap (a0*2 ^ (ji8).toNat))=jD:=yX pY;obtain ⟨adk,aib⟩:∃ j_:Int,(IntKind.u64.wrap (64 - (ji8)))=j_:=⟨_,rfl⟩;replace H:(if 0<=(adk) then (if ((dJ) / 4294967296)=0 then (none) else (aV.l0 k dJ ji8 ((dJ) / 4294967296) (Go.bits .and .u64 (dJ) 4294967295) (Go.bits .or .u64 (jD) (shr .u64 a1 (adk))) ((shl .u64 a1 (ji8)) / 4294967296) (Go.bits .and .u64 (shl .u64 a1 (ji8)) 4294967295) (IntKind.u64.wrap (Int.tdiv (Go.bits .or .u64 (jD) (shr .u64 a1 (adk))) ((dJ) / 4294967296))) (IntKind.u64.wrap ((Go.bits .or .u64 (jD) (shr .u64 a1 (adk))) - (IntKind.u64.wrap ((IntKind.u64.wrap (Int.tdiv (Go.bits .or .u64 (jD) (shr .u64 a1 (adk))) ((dJ) / 4294967296)))*((dJ) / 4294967296))))))) else (none))=some (r1,r2):=by first|(rw [aib] at H;exact H)|(simp only [aib] at H ⊢;exact H)
     (try rw [aib] at A7)
     by_cases c14:0<=(adk)
     ·rw [if_pos c14] at H;have acR:=eq_true c14;have aoH:=decide_eq_true c14;clear c14;obtain ⟨qy,aar⟩:∃ j_:Int,(shr .u64 a1 (adk))=j_:=⟨_,rfl⟩;replace H:(if ((dJ) / 4294967296)=0 then (none) else (aV.l0 k dJ ji8 ((dJ) / 4294967296) (Go.bits .and .u64 (dJ) 4294967295) (Go.bits .or .u64 (jD) (qy)) ((shl .u64 a1 (ji8)) / 4294967296) (Go.bits .and .u64 (shl .u64 a1 (ji8)) 4294967295) (IntKind.u64.wrap (Int.tdiv (Go.bits .or .u64 (jD) (qy)) ((dJ) / 4294967296))) (IntKind.u64.wrap ((Go.bits .or .u64 (jD) (qy)) - (IntKind.u64.wrap ((IntKind.u64.wrap (Int.tdiv (Go.bits .or .u64 (jD) (qy)) ((dJ) / 4294967296)))*((dJ) / 4294967296)))))))=some (r1,r2):=by first|(rw [aar] at H;exact H)|(simp only [aar] at H ⊢;exact H)
      (try rw [aar] at A7)
      have aBg:(a1 / 2 ^ min (adk).toNat 64)=qy:=aar;have aBh:(adk)<=64->(a1 / 2 ^ (adk).toNat)=qy:=qE aar;have aDD:=eq_true (of_decide_eq_true (by first|(with_reducible assumption)|assumption):0<=(ji8));obtain ⟨nZ,aas⟩:∃ j_:Int,(shl .u64 a1 (ji8))=j_:=⟨_,rfl⟩;replace H:(if ((dJ) / 4294967296)=0 then (none) else (aV.l0 k dJ ji8 ((dJ) / 4294967296) (Go.bits .and .u64 (dJ) 4294967295) (Go.bits .or .u64 (jD) (qy)) ((nZ) / 4294967296) (Go.bits .and .u64 (nZ) 4294967295) (IntKind.u64.wrap (Int.tdiv (Go.bits .or .u64 (jD) (qy)) ((dJ) / 4294967296))) (IntKind.u64.wrap ((Go.bits .or .u64 (jD) (qy)) - (IntKind.u64.wrap ((IntKind.u64.wrap (Int.tdiv (Go.bits .or .u64 (jD) (qy)) ((dJ) / 4294967296)))*((dJ) / 4294967296)))))))=some (r1,r2):=by first|(rw [aas] at H;exact H)|(simp only [aas] at H ⊢;exact H)
      (try rw [aas] at A7)
      have aBi:(IntKind.u64.wrap (a1*2 ^ min (ji8).toNat 64))=nZ:=aas;have aBj:(ji8)<=64->(IntKind.u64.wrap (a1*2 ^ (ji8).toNat))=nZ:=yX aas;by_cases c18:((dJ) / 4294967296)=0
      ·rw [if_pos c18] at H;exact absurd H (by simp)
      ·rw [if_neg c18] at H;have aDE:(((dJ) / 4294967296) == 0)=false:=beq_eq_false_iff_ne.mpr c18;have aDF:(((dJ) / 4294967296) != 0)=true:=bne_iff_ne.mpr c18;have arT:=aj.mk H;clear H;go_enter Tryz.func157,Tryz.ntmps157;go_upto_block 0 with (first|(go_at_call 179;(with_reducible refine (bits_LeadingZeros64.calls a2 qU _ A7.out).mono ?_);rintro e w' ⟨rfl,⟨nd,rfl⟩⟩;(try exact ⟨rfl,_,zN⟩)))
       repeat (go_quiet (first|(go_at_call 179;(with_reducible refine (bits_LeadingZeros64.calls a2 qU _ A7.out).mono ?_);rintro e w' ⟨rfl,⟨nd,rfl⟩⟩;(try exact ⟨rfl,_,zN⟩)));go_upto_block 0 with (first|(go_at_call 179;(with_reducible refine (bits_LeadingZeros64.calls a2 qU _ A7.out).mono ?_);rintro e w' ⟨rfl,⟨nd,rfl⟩⟩;(try exact ⟨rfl,_,zN⟩))))
       (try simp only [Act.put,List.setIfInBounds_toArray,List.set_cons_zero,List.set_cons_succ])
       go_cut [15] (fun v15 wc=>∃ (kq:Nat) (qc:Int),v15 = .int .u64 qc/\aj (aV.j2 kq dJ ji8 ((dJ) / 4294967296) (Go.bits .and .u64 (dJ) 4294967295) (Go.bits .or .u64 (jD) (qy)) ((nZ) / 4294967296) (Go.bits .and .u64 (nZ) 4294967295) qc=some (r1,r2))/\aj (kq<=k)/\dG w wc)
       case first =>
        have H:=arT.out;clear arT;have H':=aj.mk H;clear H;go_wp2;repeat (go_quiet (fail);try go_wp2)
        go_loopg [15,16] k (fun kq v15 v16 w'=>∃ (abP:Int) (yG:Int),v15 = .int .u64 abP/\v16 = .int .u64 yG/\aj (aV.l0 kq dJ ji8 ((dJ) / 4294967296) (Go.bits .and .u64 (dJ) 4294967295) (Go.bits .or .u64 (jD) (qy)) ((nZ) / 4294967296) (Go.bits .and .u64 (nZ) 4294967295) abP yG=some (r1,r2))/\aj (kq<=k)/\dG w w')
        case atStart=>exact ⟨(IntKind.u64.wrap (Int.tdiv (Go.bits .or .u64 (jD) (qy)) ((dJ) / 4294967296))),(IntKind.u64.wrap ((Go.bits .or .u64 (jD) (qy)) - (IntKind.u64.wrap ((IntKind.u64.wrap (Int.tdiv (Go.bits .or .u64 (jD) (qy)) ((dJ) / 4294967296)))*((dJ) / 4294967296))))),(by first|rfl|(simp;done)|(simp only [<- jT,<- pY,<- aar] <;> (first|rfl|simp))|(simp [*];done)),(by first|rfl|(simp;done)|(simp only [<- jT,<- pY,<- aar] <;> (first|rfl|simp))|(simp [*];done)),H',⟨Nat.le_refl _⟩,zW⟩
        case round =>
         clear H';obtain ⟨abP,yG,rfl,rfl,HA,HK1,⟨m1,rfl⟩⟩:=hrel;cases gk with
         | zero=>exact absurd HA.out (by simp [aV.l0])
         | succ k1 =>
          have H:=HA.out;clear HA;simp only [aV.l0] at H;have arU:=aj.mk H;clear H;go_upto_region 17 with (fail);repeat (go_quiet (fail);go_upto_region 17 with (fail))
          go_cut [78] (fun v78 wc=>∃ (kq:Nat) (aic:Bool),v78 = .bool aic/\aj (aV.j1 kq dJ ji8 ((dJ) / 4294967296) (Go.bits .and .u64 (dJ) 4294967295) (Go.bits .or .u64 (jD) (qy)) ((nZ) / 4294967296) (Go.bits .and .u64 (nZ) 4294967295) abP yG aic=some (r1,r2))/\aj (kq<=k1)/\dG w wc)
          case first =>
           have H:=arU.out;clear arU;by_cases c21:abP>=4294967296
           ·rw [if_pos c21] at H;have ad6:=decide_eq_true c21;clear c21
            (first|rw [ad6]|(simp only [cZ,dD];rw [ad6])|skip)
            have H':=aj.mk H;clear H;go_wp2;repeat (go_quiet (fail);try go_wp2)
            go_meet
            case rel=>exact ⟨_,(true),zT,H',⟨by have:=HK1.out;first|omega|exact Nat.le_refl _⟩,zW⟩
           ·rw [if_neg c21] at H;have ad6:=decide_eq_false c21;clear c21
            (first|rw [ad6]|(simp only [cZ,dD];rw [ad6])|skip)
            have H':=aj.mk H;clear H;go_wp2;repeat (go_quiet (fail);try go_wp2)
            go_meet
            case rel=>exact ⟨_,(decide ((IntKind.u64.wrap (abP*(Go.bits .and .u64 (dJ) 4294967295))) > (IntKind.u64.wrap ((IntKind.u64.wrap (4294967296*yG))+((nZ) / 4294967296))))),(by first|rfl|(simp;done)|(simp only [<- jT,<- aas] <;> (first|rfl|simp))|(simp [*];done)),H',⟨by have:=HK1.out;first|omega|exact Nat.le_refl _⟩,zW⟩
          case rest =>
           clear arU;obtain ⟨kq,aic,rfl,HA,aoN,⟨aEA,rfl⟩⟩:=hcut;cases kq with
           | zero=>exact absurd HA.out (by simp [aV.j1])
           | succ azm =>
            have H:=HA.out;clear HA;simp only [aV.j1] at H;by_cases c22:aic=true
            ·subst c22;rw [if_pos rfl] at H;(try dsimp only at H);by_cases c23:(IntKind.u64.wrap (yG+((dJ) / 4294967296)))>=4294967296
             ·rw [if_pos c23] at H;have aoz:=decide_eq_true c23;clear c23;have H':=aj.mk H;clear H;go_wp2;repeat (go_quiet (fail);try go_wp2)
              go_meet
              case rel=>exact ⟨_,(IntKind.u64.wrap (abP - 1)),zT,H',⟨by have:=HK1.out;have:=aoN.out;first|omega|exact Nat.le_refl _⟩,zW⟩
             ·rw [if_neg c23] at H;have aoz:=decide_eq_false c23;clear c23;have H':=aj.mk H;clear H;go_wp2;repeat (go_quiet (fail);try go_wp2)
              go_roundg azm
              case measure=>have:=HK1.out;have:=aoN.out;omega
              case rel=>exact ⟨(IntKind.u64.wrap (abP - 1)),(IntKind.u64.wrap (yG+((dJ) / 4294967296))),zT,(by first|rfl|(simp;done)|(simp only [<- jT] <;> (first|rfl|simp))|(simp [*];done)),H',⟨by have:=HK1.out;have:=aoN.out;omega⟩,zW⟩
            ·replace c22:=Bool.eq_false_iff.mpr c22;subst c22;rw [if_neg (show ¬ (false=true) by decide)] at H;(try dsimp only at H);have H':=aj.mk H;clear H;go_wp2;repeat (go_quiet (fail);try go_wp2)
             go_meet
             case rel=>exact ⟨_,(abP),zT,H',⟨by have:=HK1.out;have:=aoN.out;first|omega|exact Nat.le_refl _⟩,zW⟩
       case rest =>
        clear arT;obtain ⟨kq,qc,rfl,HA,aoO,⟨aEB,rfl⟩⟩:=hcut;cases kq with
        | zero=>exact absurd HA.out (by simp [aV.j2])
        | succ avU =>
         have H:=HA.out;clear HA;simp only [aV.j2] at H;by_cases c24:((dJ) / 4294967296)=0
         ·rw [if_pos c24] at H;exact absurd H (by simp)
         ·rw [if_neg c24] at H;have ax5:(((dJ) / 4294967296) == 0)=false:=beq_eq_false_iff_ne.mpr c24;have aDG:(((dJ) / 4294967296) != 0)=true:=bne_iff_ne.mpr c24;have H':=aj.mk H;clear H;go_wp2;repeat (go_quiet (fail);try go_wp2)
          go_loopg [16,18] avU (fun kq v16 v18 w'=>∃ (aed:Int) (wo:Int),v16 = .int .u64 aed/\v18 = .int .u64 wo/\aj (aV.l1 kq dJ ji8 ((dJ) / 4294967296) (Go.bits .and .u64 (dJ) 4294967295) (Go.bits .and .u64 (nZ) 4294967295) qc aed (IntKind.u64.wrap ((IntKind.u64.wrap ((IntKind.u64.wrap ((Go.bits .or .u64 (jD) (qy))*4294967296))+((nZ) / 4294967296))) - (IntKind.u64.wrap (qc*dJ)))) wo=some (r1,r2))/\aj (kq<=avU)/\dG w w')
          case atStart=>exact ⟨(IntKind.u64.wrap ((IntKind.u64.wrap ((IntKind.u64.wrap ((IntKind.u64.wrap ((Go.bits .or .u64 (jD) (qy))*4294967296))+((nZ) / 4294967296))) - (IntKind.u64.wrap (qc*dJ)))) - (IntKind.u64.wrap ((IntKind.u64.wrap (Int.tdiv (IntKind.u64.wrap ((IntKind.u64.wrap ((IntKind.u64.wrap ((Go.bits .or .u64 (jD) (qy))*4294967296))+((nZ) / 4294967296))) - (IntKind.u64.wrap (qc*dJ)))) ((dJ) / 4294967296)))*((dJ) / 4294967296))))),(IntKind.u64.wrap (Int.tdiv (IntKind.u64.wrap ((IntKind.u64.wrap ((IntKind.u64.wrap ((Go.bits .or .u64 (jD) (qy))*4294967296))+((nZ) / 4294967296))) - (IntKind.u64.wrap (qc*dJ)))) ((dJ) / 4294967296))),(by first|rfl|(simp;done)|(simp only [<- jT,<- pY,<- aar,<- aas] <;> (first|rfl|simp))|(simp [*];done)),(by first|rfl|(simp;done)|(simp only [<- jT,<- pY,<- aar,<- aas] <;> (first|rfl|simp))|(simp [*];done)),H',⟨Nat.le_refl _⟩,zW⟩
          case round =>
           clear H';obtain ⟨aed,wo,rfl,rfl,HA,HK2,⟨m2,rfl⟩⟩:=hrel;cases gk with
           | zero=>exact absurd HA.out (by simp [aV.l1])
           | succ k2 =>
            have H:=HA.out;clear HA;simp only [aV.l1] at H;have arV:=aj.mk H;clear H;go_upto_region 24 with (fail);repeat (go_quiet (fail);go_upto_region 24 with (fail))
            go_cut [113] (fun azn wc=>∃ (kq:Nat) (af9:Bool),azn = .bool af9/\aj (aV.j4 kq dJ ji8 ((dJ) / 4294967296) (Go.bits .and .u64 (dJ) 4294967295) (Go.bits .and .u64 (nZ) 4294967295) qc aed (IntKind.u64.wrap ((IntKind.u64.wrap ((IntKind.u64.wrap ((Go.bits .or .u64 (jD) (qy))*4294967296))+((nZ) / 4294967296))) - (IntKind.u64.wrap (qc*dJ)))) wo af9=some (r1,r2))/\aj (kq<=k2)/\dG w wc)
            case first =>
             have H:=arV.out;clear arV;by_cases c26:wo>=4294967296
             ·rw [if_pos c26] at H;have af8:=decide_eq_true c26;clear c26
              (first|rw [af8]|(simp only [cZ,dD];rw [af8])|skip)
              have H':=aj.mk H;clear H;go_wp2;repeat (go_quiet (fail);try go_wp2)
              go_meet
              case rel=>exact ⟨_,(true),zT,H',⟨by have:=aoO.out;have:=HK2.out;first|omega|exact Nat.le_refl _⟩,zW⟩
             ·rw [if_neg c26] at H;have af8:=decide_eq_false c26;clear c26
              (first|rw [af8]|(simp only [cZ,dD];rw [af8])|skip)
              have H':=aj.mk H;clear H;go_wp2;repeat (go_quiet (fail);try go_wp2)
              go_meet
              case rel=>exact ⟨_,(decide ((IntKind.u64.wrap (wo*(Go.bits .and .u64 (dJ) 4294967295))) > (IntKind.u64.wrap ((IntKind.u64.wrap (4294967296*aed))+(Go.bits .and .u64 (nZ) 4294967295))))),(by first|rfl|(simp;done)|(simp only [<- jT,<- aas] <;> (first|rfl|simp))|(simp [*];done)),H',⟨by have:=aoO.out;have:=HK2.out;first|omega|exact Nat.le_refl _⟩,zW⟩
            case rest =>
             clear arV;obtain ⟨kq,af9,rfl,HA,avV,⟨aEC,rfl⟩⟩:=hcut;cases kq with
             | zero=>exact absurd HA.out (by simp [aV.j4])
             | succ azo =>
              have H:=HA.out;clear HA;simp only [aV.j4] at H;by_cases c27:af9=true
              ·subst c27;rw [if_pos rfl] at H;(try dsimp only at H);by_cases c28:(IntKind.u64.wrap (aed+((dJ) / 4294967296)))>=4294967296
               ·rw [if_pos c28] at H;have aoA:=decide_eq_true c28;clear c28;by_cases c29:0<=ji8
                ·rw [if_pos c29] at H;have aoe:=eq_true c29;have aDH:=decide_eq_true c29;clear c29;obtain ⟨arW,aie⟩:∃ j_:Int,(shr .u64 (IntKind.u64.wrap ((IntKind.u64.wrap ((IntKind.u64.wrap ((IntKind.u64.wrap ((IntKind.u64.wrap ((IntKind.u64.wrap ((Go.bits .or .u64 (jD) (qy))*4294967296))+((nZ) / 4294967296))) - (IntKind.u64.wrap (qc*dJ))))*4294967296))+(Go.bits .and .u64 (nZ) 4294967295))) - (IntKind.u64.wrap ((IntKind.u64.wrap (wo - 1))*dJ)))) ji8)=j_:=⟨_,rfl⟩;replace H:(some (IntKind.u64.wrap ((IntKind.u64.wrap (qc*4294967296))+(IntKind.u64.wrap (wo - 1))),arW))=some (r1,r2):=(by first|(rw [aie] at H;exact H)|(simp only [aie] at H ⊢;exact H));have aBk:((IntKind.u64.wrap ((IntKind.u64.wrap ((IntKind.u64.wrap ((IntKind.u64.wrap ((IntKind.u64.wrap ((IntKind.u64.wrap ((Go.bits .or .u64 (jD) (qy))*4294967296))+((nZ) / 4294967296))) - (IntKind.u64.wrap (qc*dJ))))*4294967296))+(Go.bits .and .u64 (nZ) 4294967295))) - (IntKind.u64.wrap ((IntKind.u64.wrap (wo - 1))*dJ)))) / 2 ^ min ji8.toNat 64)=arW:=aie;have aBl:ji8<=64->((IntKind.u64.wrap ((IntKind.u64.wrap ((IntKind.u64.wrap ((IntKind.u64.wrap ((IntKind.u64.wrap ((IntKind.u64.wrap ((Go.bits .or .u64 (jD) (qy))*4294967296))+((nZ) / 4294967296))) - (IntKind.u64.wrap (qc*dJ))))*4294967296))+(Go.bits .and .u64 (nZ) 4294967295))) - (IntKind.u64.wrap ((IntKind.u64.wrap (wo - 1))*dJ)))) / 2 ^ ji8.toNat)=arW:=qE aie;simp only [Option.some.injEq,Prod.mk.injEq] at H;obtain ⟨rfl,rfl⟩:=H;go_wp2;repeat (go_quiet (fail);try go_wp2)
                 go_ret2;exact ⟨by first|rfl|(simp;done)|(simp only [<- qW,<- jT,<- pY,<- aib,<- aar,<- aas,<- aie] <;> (first|rfl|simp))|(simp [*];done),zW⟩
                ·rw [if_neg c29] at H;exact absurd H (by simp)
               ·rw [if_neg c28] at H;have aoA:=decide_eq_false c28;clear c28;have H':=aj.mk H;clear H;go_wp2;repeat (go_quiet (fail);try go_wp2)
                go_roundg azo
                case measure=>have:=aoO.out;have:=HK2.out;have:=avV.out;omega
                case rel=>exact ⟨(IntKind.u64.wrap (aed+((dJ) / 4294967296))),(IntKind.u64.wrap (wo - 1)),(by first|rfl|(simp;done)|(simp only [<- jT] <;> (first|rfl|simp))|(simp [*];done)),zT,H',⟨by have:=aoO.out;have:=HK2.out;have:=avV.out;omega⟩,zW⟩
              ·replace c27:=Bool.eq_false_iff.mpr c27;subst c27;rw [if_neg (show ¬ (false=true) by decide)] at H;(try dsimp only at H);by_cases c31:0<=ji8
               ·rw [if_pos c31] at H;have aDI:=eq_true c31;have aDJ:=decide_eq_true c31;clear c31;obtain ⟨arX,aif⟩:∃ j_:Int,(shr .u64 (IntKind.u64.wrap ((IntKind.u64.wrap ((IntKind.u64.wrap ((IntKind.u64.wrap ((IntKind.u64.wrap ((IntKind.u64.wrap ((Go.bits .or .u64 (jD) (qy))*4294967296))+((nZ) / 4294967296))) - (IntKind.u64.wrap (qc*dJ))))*4294967296))+(Go.bits .and .u64 (nZ) 4294967295))) - (IntKind.u64.wrap (wo*dJ)))) ji8)=j_:=⟨_,rfl⟩;replace H:(some (IntKind.u64.wrap ((IntKind.u64.wrap (qc*4294967296))+wo),arX))=some (r1,r2):=(by first|(rw [aif] at H;exact H)|(simp only [aif] at H ⊢;exact H));have aBm:((IntKind.u64.wrap ((IntKind.u64.wrap ((IntKind.u64.wrap ((IntKind.u64.wrap ((IntKind.u64.wrap ((IntKind.u64.wrap ((Go.bits .or .u64 (jD) (qy))*4294967296))+((nZ) / 4294967296))) - (IntKind.u64.wrap (qc*dJ))))*4294967296))+(Go.bits .and .u64 (nZ) 4294967295))) - (IntKind.u64.wrap (wo*dJ)))) / 2 ^ min ji8.toNat 64)=arX:=aif;have aBn:ji8<=64->((IntKind.u64.wrap ((IntKind.u64.wrap ((IntKind.u64.wrap ((IntKind.u64.wrap ((IntKind.u64.wrap ((IntKind.u64.wrap ((Go.bits .or .u64 (jD) (qy))*4294967296))+((nZ) / 4294967296))) - (IntKind.u64.wrap (qc*dJ))))*4294967296))+(Go.bits .and .u64 (nZ) 4294967295))) - (IntKind.u64.wrap (wo*dJ)))) / 2 ^ ji8.toNat)=arX:=qE aif;simp only [Option.some.injEq,Prod.mk.injEq] at H;obtain ⟨rfl,rfl⟩:=H;go_wp2;repeat (go_quiet (fail);try go_wp2)
                go_ret2;exact ⟨by first|rfl|(simp;done)|(simp only [<- qW,<- jT,<- pY,<- aib,<- aar,<- aas,<- aif] <;> (first|rfl|simp))|(simp [*];done),zW⟩
               ·rw [if_neg c31] at H;exact absurd H (by simp)
     ·rw [if_neg c14] at H;exact absurd H (by simp)
    ·rw [if_neg c9] at H;exact absurd H (by simp)
def bf.j0:Nat->Bool->Int->Int->Bool->Option (Int)
 | 0,_,_,_,_=>none
 | k+1,x9,x11,x14,x60=>if x60=true then ((dB.f k (qG x11 1 0) (qF x11 1 0) x9).bind fun al6=>(some al6)) else ((dB.f k (qG x11 x14 0) (qF x11 x14 0) x9).bind fun t138=>(some t138))
def bf.f (k:Nat) (a0 a1 a2:Int):Option (Int):=if a2=0 then (some 0) else ((kR.f a0 a1).bind fun yM=>((oD.f a2).bind fun yt=>(if yM.1>=yt then ((dB.f k 1 0 (yM.2.2 != (decide (a2 < 0)))).bind fun arY=>(some arY)) else ((aV.f k yM.1 yM.2.1 yt).bind fun aat=>(if (yM.2.2 != (decide (a2 < 0)))=true then (if aat.2 > (IntKind.u64.wrap (yt - aat.2)) then (bf.j0 k (yM.2.2 != (decide (a2 < 0))) aat.1 0 true) else (if ((yM.2.2 != (decide (a2 < 0)))=true) then (bf.j0 k (yM.2.2 != (decide (a2 < 0))) aat.1 0 false) else (bf.j0 k (yM.2.2 != (decide (a2 < 0))) aat.1 0 (decide (aat.2>=(IntKind.u64.wrap (yt - aat.2))))))) else (if ((yM.2.2 != (decide (a2 < 0)))=true) then (bf.j0 k (yM.2.2 != (decide (a2 < 0))) aat.1 0 false) else (bf.j0 k (yM.2.2 != (decide (a2 < 0))) aat.1 0 (decide (aat.2>=(IntKind.u64.wrap (yt - aat.2)))))))))))
theorem bf.jg:∀ k,(∀ y0 y1 y2 y3,LeO (bf.j0 k y0 y1 y2 y3) (bf.j0 (k+1) y0 y1 y2 y3))
 | 0=>fun _ _ _ _ r h=>by simp [bf.j0] at h
 | k+1=>by
  have ih0:=bf.jg k
  ·intro y0 y1 y2 y3;unfold bf.j0;repeat' (with_reducible first|exact ih0 _ _ _ _|exact aV.mono _ _ _ _|exact dB.mono _ _ _ _|exact zM|refine LeO.ite ?_ ?_|refine LeO.bind ?_ (fun _ => ?_))
theorem bf.mono:∀ a0 a1 a2 k,LeO (bf.f k a0 a1 a2) (bf.f (k+1) a0 a1 a2):=by
 intro a0 a1 a2 k;have ih0:=bf.jg k;unfold bf.f;repeat' (with_reducible first|exact ih0 _ _ _ _|exact aV.mono _ _ _ _|exact dB.mono _ _ _ _|exact zM|refine LeO.ite ?_ ?_|refine LeO.bind ?_ (fun _ => ?_))
theorem bf.calls (k:Nat) (a0 a1 a2 r:Int) (w:World) (h:bf.f k a0 a1 a2=some r) :
  Calls Tryz.prog 130 #[.int .i64 a0,.int .i64 a1,.int .i64 a2] w fun e w'=>e = .returned (.int .i64 r)/\dG w w':=by
 have H:=h;clear h;unfold bf.f at H;by_cases c4:a2=0
 ·rw [if_pos c4] at H;have fG:(a2 == 0)=true:=beq_iff_eq.mpr c4;have aaJ:(a2 != 0)=false:=bne_eq_false_iff_eq.mpr c4;clear c4;obtain rfl:=Option.some.inj H;go_enter Tryz.func130,Tryz.ntmps130;go_wp2;go_ret;exact ⟨zT,zW⟩
 ·rw [if_neg c4] at H;have fG:(a2 == 0)=false:=beq_eq_false_iff_ne.mpr c4;have aaJ:(a2 != 0)=true:=bne_iff_ne.mpr c4;replace H:=zO H;obtain ⟨⟨t130,t131,mX⟩,A5,H⟩:=H;try dsimp only at H
  replace H:=zO H;obtain ⟨yt,A6,H⟩:=H;try dsimp only at H
  by_cases c7:t130>=yt
  ·rw [if_pos c7] at H;have jk:=decide_eq_true c7;clear c7;replace H:=zO H;obtain ⟨arY,A8,H⟩:=H;try dsimp only at H
   obtain rfl:=Option.some.inj H;go_enter Tryz.func130,Tryz.ntmps130;go_wp2_with (first|((with_reducible refine ay (f:=154) rfl ?_);refine aH (some 21) rfl rfl Tryz.func154 (by kernel_rfl) rfl #[.int .i64 a0,.int .i64 a1] rfl zL ?_;(with_reducible refine (kR.calls a0 a1 t130 t131 mX _ A5.out).mono ?_);rintro e w' ⟨rfl,⟨nd,rfl⟩⟩;refine ⟨_,rfl,?_⟩)|((with_reducible refine ay (f:=155) rfl ?_);refine aH (some 26) rfl rfl Tryz.func155 (by kernel_rfl) rfl #[.int .i64 a2] rfl zL ?_;(with_reducible refine (oD.calls a2 yt _ A6.out).mono ?_);rintro e w' ⟨rfl,⟨nd,rfl⟩⟩;refine ⟨_,rfl,?_⟩)|((with_reducible refine ay (f:=156) rfl ?_);refine aH (some 35) rfl rfl Tryz.func156 (by kernel_rfl) rfl #[.int .u64 1,.int .u64 0,.bool (mX != (decide (a2 < 0)))] rfl zL ?_;(with_reducible refine (dB.calls k 1 0 (mX != (decide (a2 < 0))) arY _ A8.out).mono ?_);rintro e w' ⟨rfl,⟨nd,rfl⟩⟩;refine ⟨_,rfl,?_⟩));go_ret;exact ⟨zT,zW⟩
  ·rw [if_neg c7] at H;have jk:=decide_eq_false c7;clear c7;replace H:=zO H;obtain ⟨⟨vF,ajk⟩,A9,H⟩:=H;try dsimp only at H
   rcases Bool.eq_false_or_eq_true (mX != (decide (a2 < 0))) with hsv|hsv
   ·have uh:(mX != (decide (a2 < 0)))=true:=hsv;have aos:(mX == (decide (a2 < 0)))=false:=(by simpa using hsv);have ag7:=aj.mk H;clear H;go_enter Tryz.func130,Tryz.ntmps130;go_upto_region 11 with (first|((with_reducible refine ay (f:=154) rfl ?_);refine aH (some 21) rfl rfl Tryz.func154 (by kernel_rfl) rfl #[.int .i64 a0,.int .i64 a1] rfl zL ?_;(with_reducible refine (kR.calls a0 a1 t130 t131 mX _ A5.out).mono ?_);rintro e w' ⟨rfl,⟨nd,rfl⟩⟩;refine ⟨_,rfl,?_⟩)|((with_reducible refine ay (f:=155) rfl ?_);refine aH (some 26) rfl rfl Tryz.func155 (by kernel_rfl) rfl #[.int .i64 a2] rfl zL ?_;(with_reducible refine (oD.calls a2 yt _ A6.out).mono ?_);rintro e w' ⟨rfl,⟨nd,rfl⟩⟩;refine ⟨_,rfl,?_⟩)|((with_reducible refine ay (f:=157) rfl ?_);refine aH (some 40) rfl rfl Tryz.func157 (by kernel_rfl) rfl #[.int .u64 t130,.int .u64 t131,.int .u64 yt] rfl zL ?_;(with_reducible refine (aV.calls k t130 t131 yt vF ajk _ A9.out).mono ?_);rintro e w' ⟨rfl,⟨nd,rfl⟩⟩;refine ⟨_,rfl,?_⟩))
    (try simp only [Act.put,List.setIfInBounds_toArray,List.set_cons_zero,List.set_cons_succ])
    go_cut [60] (fun v60 wc=>∃ (kq:Nat) (abQ:Bool),v60 = .bool abQ/\aj (bf.j0 kq (mX != (decide (a2 < 0))) vF 0 abQ=some r)/\aj (kq<=k)/\dG w wc)
    case first =>
     have H:=ag7.out;clear ag7;by_cases c11:(mX != (decide (a2 < 0)))=true
     ·rw [if_pos c11] at H;have iV:(mX != (decide (a2 < 0)))=true:=c11
      (try (have xM:decide (mX=(decide (a2 < 0)))=false:=by simpa using c11))
      (try (have aot:(mX == (decide (a2 < 0)))=false:=by simpa using c11))
      (try (have ax3:¬ (mX=(decide (a2 < 0))):=by simpa using c11))
      clear c11
      (first|rw [iV]|(simp only [cZ,dD];rw [iV])|skip)
      by_cases c12:ajk > (IntKind.u64.wrap (yt - ajk))
      ·rw [if_pos c12] at H;have aa2:=decide_eq_true c12;clear c12;have H':=aj.mk H;clear H;go_wp2;go_meet
       case rel=>exact ⟨_,(true),zT,H',⟨by first|omega|exact Nat.le_refl _⟩,zW⟩
      ·rw [if_neg c12] at H;have aa2:=decide_eq_false c12;clear c12;by_cases c13:((mX != (decide (a2 < 0)))=true)
       ·rw [if_pos c13] at H;have aa1:(mX != (decide (a2 < 0)))=true:=c13
        (try (have aii:decide (mX=(decide (a2 < 0)))=false:=by simpa using c13))
        (try (have aDK:(mX == (decide (a2 < 0)))=false:=by simpa using c13))
        (try (have aDL:¬ (mX=(decide (a2 < 0))):=by simpa using c13))
        clear c13;have H':=aj.mk H;clear H;go_wp2;go_meet
        case rel=>exact ⟨_,(false),zT,H',⟨by first|omega|exact Nat.le_refl _⟩,zW⟩
       ·rw [if_neg c13] at H;have aa1:(mX != (decide (a2 < 0)))=false:=(by simpa using c13);exact absurd (uh.symm.trans aa1) (by decide)
     ·rw [if_neg c11] at H;have iV:(mX != (decide (a2 < 0)))=false:=(by simpa using c11);exact absurd (uh.symm.trans iV) (by decide)
    case rest =>
     clear ag7;obtain ⟨kq,abQ,rfl,HA,HJ9,⟨mc9,rfl⟩⟩:=hcut;cases kq with
     | zero=>exact absurd HA.out (by simp [bf.j0])
     | succ kj9 =>
      have H:=HA.out;clear HA;simp only [bf.j0] at H;by_cases c15:abQ=true
      ·subst c15;rw [if_pos rfl] at H;(try dsimp only at H);replace H:=zO H;obtain ⟨al6,A16,H⟩:=H;try dsimp only at H
       obtain rfl:=Option.some.inj H;go_wp2_with (first|((with_reducible refine ay (f:=156) rfl ?_);refine aH (some 70) rfl rfl Tryz.func156 (by kernel_rfl) rfl #[.int .u64 (qG vF 1 0),.int .u64 (qF vF 1 0),.bool true] rfl zL ?_;(with_reducible refine (dB.calls kj9 (qG vF 1 0) (qF vF 1 0) true al6 _ (by have h:=A16.out;rw [uh] at h;exact h)).mono ?_);rintro e w' ⟨rfl,⟨nd,rfl⟩⟩;refine ⟨_,rfl,?_⟩));go_ret;exact ⟨zT,zW⟩
      ·replace c15:=Bool.eq_false_iff.mpr c15;subst c15;rw [if_neg (show ¬ (false=true) by decide)] at H;(try dsimp only at H);replace H:=zO H;obtain ⟨t138,A17,H⟩:=H;try dsimp only at H
       obtain rfl:=Option.some.inj H;go_wp2_with (first|((with_reducible refine ay (f:=156) rfl ?_);refine aH (some 70) rfl rfl Tryz.func156 (by kernel_rfl) rfl #[.int .u64 (qG vF 0 0),.int .u64 (qF vF 0 0),.bool true] rfl zL ?_;(with_reducible refine (dB.calls kj9 (qG vF 0 0) (qF vF 0 0) true t138 _ (by have h:=A17.out;rw [uh] at h;exact h)).mono ?_);rintro e w' ⟨rfl,⟨nd,rfl⟩⟩;refine ⟨_,rfl,?_⟩));go_ret;exact ⟨zT,zW⟩
   ·have uh:(mX != (decide (a2 < 0)))=false:=hsv;have aos:(mX == (decide (a2 < 0)))=true:=(by simpa using hsv);have ag7:=aj.mk H;clear H;go_enter Tryz.func130,Tryz.ntmps130;go_upto_region 11 with (first|((with_reducible refine ay (f:=154) rfl ?_);refine aH (some 21) rfl rfl Tryz.func154 (by kernel_rfl) rfl #[.int .i64 a0,.int .i64 a1] rfl zL ?_;(with_reducible refine (kR.calls a0 a1 t130 t131 mX _ A5.out).mono ?_);rintro e w' ⟨rfl,⟨nd,rfl⟩⟩;refine ⟨_,rfl,?_⟩)|((with_reducible refine ay (f:=155) rfl ?_);refine aH (some 26) rfl rfl Tryz.func155 (by kernel_rfl) rfl #[.int .i64 a2] rfl zL ?_;(with_reducible refine (oD.calls a2 yt _ A6.out).mono ?_);rintro e w' ⟨rfl,⟨nd,rfl⟩⟩;refine ⟨_,rfl,?_⟩)|((with_reducible refine ay (f:=157) rfl ?_);refine aH (some 40) rfl rfl Tryz.func157 (by kernel_rfl) rfl #[.int .u64 t130,.int .u64 t131,.int .u64 yt] rfl zL ?_;(with_reducible refine (aV.calls k t130 t131 yt vF ajk _ A9.out).mono ?_);rintro e w' ⟨rfl,⟨nd,rfl⟩⟩;refine ⟨_,rfl,?_⟩))
    (try simp only [Act.put,List.setIfInBounds_toArray,List.set_cons_zero,List.set_cons_succ])
    go_cut [60] (fun v60 wc=>∃ (kq:Nat) (abQ:Bool),v60 = .bool abQ/\aj (bf.j0 kq (mX != (decide (a2 < 0))) vF 0 abQ=some r)/\aj (kq<=k)/\dG w wc)
    case first =>
     have H:=ag7.out;clear ag7;by_cases c11:(mX != (decide (a2 < 0)))=true
     ·rw [if_pos c11] at H;have iV:(mX != (decide (a2 < 0)))=true:=c11;exact absurd (uh.symm.trans iV) (by decide)
     ·rw [if_neg c11] at H;have iV:(mX != (decide (a2 < 0)))=false:=by simpa using c11
      (try (have xM:decide (mX=(decide (a2 < 0)))=true:=by simpa using c11))
      (try (have aot:(mX == (decide (a2 < 0)))=true:=by simpa using c11))
      clear c11
      (first|rw [iV]|(simp only [cZ,dD];rw [iV])|skip)
      by_cases c14:((mX != (decide (a2 < 0)))=true)
      ·rw [if_pos c14] at H;have acR:(mX != (decide (a2 < 0)))=true:=c14;exact absurd (uh.symm.trans acR) (by decide)
      ·rw [if_neg c14] at H;have acR:(mX != (decide (a2 < 0)))=false:=by simpa using c14
       (try (have aoH:decide (mX=(decide (a2 < 0)))=true:=by simpa using c14))
       (try (have aDM:(mX == (decide (a2 < 0)))=true:=by simpa using c14))
       clear c14;have H':=aj.mk H;clear H;go_wp2;go_meet
       case rel=>exact ⟨_,(decide (ajk>=(IntKind.u64.wrap (yt - ajk)))),zT,H',⟨by first|omega|exact Nat.le_refl _⟩,zW⟩
    case rest =>
     clear ag7;obtain ⟨kq,abQ,rfl,HA,HJ9,⟨mc9,rfl⟩⟩:=hcut;cases kq with
     | zero=>exact absurd HA.out (by simp [bf.j0])
     | succ kj9 =>
      have H:=HA.out;clear HA;simp only [bf.j0] at H;by_cases c15:abQ=true
      ·subst c15;rw [if_pos rfl] at H;(try dsimp only at H);replace H:=zO H;obtain ⟨al6,A16,H⟩:=H;try dsimp only at H
       obtain rfl:=Option.some.inj H;go_wp2_with (first|((with_reducible refine ay (f:=156) rfl ?_);refine aH (some 70) rfl rfl Tryz.func156 (by kernel_rfl) rfl #[.int .u64 (qG vF 1 0),.int .u64 (qF vF 1 0),.bool false] rfl zL ?_;(with_reducible refine (dB.calls kj9 (qG vF 1 0) (qF vF 1 0) false al6 _ (by have h:=A16.out;rw [uh] at h;exact h)).mono ?_);rintro e w' ⟨rfl,⟨nd,rfl⟩⟩;refine ⟨_,rfl,?_⟩));go_ret;exact ⟨zT,zW⟩
      ·replace c15:=Bool.eq_false_iff.mpr c15;subst c15;rw [if_neg (show ¬ (false=true) by decide)] at H;(try dsimp only at H);replace H:=zO H;obtain ⟨t138,A17,H⟩:=H;try dsimp only at H
       obtain rfl:=Option.some.inj H;go_wp2_with (first|((with_reducible refine ay (f:=156) rfl ?_);refine aH (some 70) rfl rfl Tryz.func156 (by kernel_rfl) rfl #[.int .u64 (qG vF 0 0),.int .u64 (qF vF 0 0),.bool false] rfl zL ?_;(with_reducible refine (dB.calls kj9 (qG vF 0 0) (qF vF 0 0) false t138 _ (by have h:=A17.out;rw [uh] at h;exact h)).mono ?_);rintro e w' ⟨rfl,⟨nd,rfl⟩⟩;refine ⟨_,rfl,?_⟩));go_ret;exact ⟨zT,zW⟩
def fU.j0:Nat->Int->Int->Bool->Option (Int)
 | 0,_,_,_=>none
 | k+1,x0,x1,x23=>if x23=true then (some 0) else (if (mx x0 (wrap64 (-x0)))>=x1 then ((bf.f k (wrap64 ((wrap64 ((wrap64 ((wrap64 ((wrap64 ((wrap64 (-(mx x0 (wrap64 (-x0)))))*(mx x0 (wrap64 (-x0)))))*(mx x0 (wrap64 (-x0)))))+(wrap64 ((wrap64 ((wrap64 (5*(mx x0 (wrap64 (-x0)))))*(mx x0 (wrap64 (-x0)))))*x1)))) - (wrap64 ((wrap64 ((wrap64 (8*(mx x0 (wrap64 (-x0)))))*x1))*x1))))+(wrap64 ((wrap64 ((wrap64 (4*x1))*x1))*x1)))) 1073741824 (wrap64 ((wrap64 ((wrap64 (2*x1))*x1))*x1))).bind fun t139=>(some t139)) else ((bf.f k (wrap64 ((wrap64 ((wrap64 ((wrap64 ((wrap64 (3*(mx x0 (wrap64 (-x0)))))*(mx x0 (wrap64 (-x0)))))*(mx x0 (wrap64 (-x0))))) - (wrap64 ((wrap64 ((wrap64 (5*(mx x0 (wrap64 (-x0)))))*(mx x0 (wrap64 (-x0)))))*x1))))+(wrap64 ((wrap64 ((wrap64 (2*x1))*x1))*x1)))) 1073741824 (wrap64 ((wrap64 ((wrap64 (2*x1))*x1))*x1))).bind fun al7=>(some al7)))
def fU.f (k:Nat) (a0 a1:Int):Option (Int):=if a1 < 1 then (fU.j0 k a0 a1 true) else (if a1 > 262144 then (fU.j0 k a0 a1 true) else (if a0>=(wrap64 (2*a1)) then (fU.j0 k a0 a1 true) else (fU.j0 k a0 a1 (decide (a0<=(wrap64 ((-2)*a1)))))))
theorem fU.jg:∀ k,(∀ y0 y1 y2,LeO (fU.j0 k y0 y1 y2) (fU.j0 (k+1) y0 y1 y2))
 | 0=>fun _ _ _ r h=>by simp [fU.j0] at h
 | k+1=>by
  have ih0:=fU.jg k
  ·intro y0 y1 y2;unfold fU.j0;repeat' (with_reducible first|exact ih0 _ _ _|exact bf.mono _ _ _ _|exact zM|refine LeO.ite ?_ ?_|refine LeO.bind ?_ (fun _ => ?_))
theorem fU.mono:∀ a0 a1 k,LeO (fU.f k a0 a1) (fU.f (k+1) a0 a1):=by
 intro a0 a1 k;have ih0:=fU.jg k;unfold fU.f;repeat' (with_reducible first|exact ih0 _ _ _|exact bf.mono _ _ _ _|exact zM|refine LeO.ite ?_ ?_|refine LeO.bind ?_ (fun _ => ?_))
theorem fU.calls (k:Nat) (a0 a1 r:Int) (w:World) (h:fU.f k a0 a1=some r) :
  Calls Tryz.prog 108 #[.int .i64 a0,.int .i64 a1] w fun e w'=>e = .returned (.int .i64 r)/\Below w.heap.size w w':=by
 have HB:=aj.mk (Below.refl w.heap.size w);have H:=h;clear h;unfold fU.f at H;have HC3:=aj.mk H;clear H;go_enter Tryz.func108,Tryz.ntmps108;go_upto_region 1 with (fail);go_cut [23] (fun v23 wc=>∃ (kq:Nat) (akI:Bool),v23 = .bool akI/\aj (fU.j0 kq a0 a1 akI=some r)/\aj (kq<=k)/\aj (Below w.heap.size w wc))
 case first =>
  have H:=HC3.out;clear HC3;by_cases c4:a1 < 1
  ·rw [if_pos c4] at H;have fG:=decide_eq_true c4;clear c4
   (first|rw [fG]|(simp only [cZ,dD];rw [fG])|skip)
   have H':=aj.mk H;clear H;go_wp2;go_meet
   case rel=>exact ⟨_,(true),zT,H',⟨by first|omega|exact Nat.le_refl _⟩,⟨zB⟩⟩
  ·rw [if_neg c4] at H;have fG:=decide_eq_false c4;clear c4
   (first|rw [fG]|(simp only [cZ,dD];rw [fG])|skip)
   by_cases c5:a1 > 262144
   ·rw [if_pos c5] at H;have iy:=decide_eq_true c5;clear c5;have H':=aj.mk H;clear H;go_wp2;go_meet
    case rel=>exact ⟨_,(true),zT,H',⟨by first|omega|exact Nat.le_refl _⟩,⟨zB⟩⟩
   ·rw [if_neg c5] at H;have iy:=decide_eq_false c5;clear c5;by_cases c6:a0>=(wrap64 (2*a1))
    ·rw [if_pos c6] at H;have iF:=decide_eq_true c6;clear c6;have H':=aj.mk H;clear H;go_wp2;go_meet
     case rel=>exact ⟨_,(true),zT,H',⟨by first|omega|exact Nat.le_refl _⟩,⟨zB⟩⟩
    ·rw [if_neg c6] at H;have iF:=decide_eq_false c6;clear c6;have H':=aj.mk H;clear H;go_wp2;go_meet
     case rel=>exact ⟨_,(decide (a0<=(wrap64 ((-2)*a1)))),zT,H',⟨by first|omega|exact Nat.le_refl _⟩,⟨zB⟩⟩
 case rest =>
  clear HC3;obtain ⟨kq,akI,rfl,HA,HJ2,HB⟩:=hcut;cases kq with
  | zero=>exact absurd HA.out (by simp [fU.j0])
  | succ kj2 =>
   have H:=HA.out;clear HA;simp only [fU.j0] at H;by_cases c7:akI=true
   ·subst c7;rw [if_pos rfl] at H;(try dsimp only at H);obtain rfl:=Option.some.inj H;go_wp2;go_ret;exact ⟨zS,zB⟩
   ·replace c7:=Bool.eq_false_iff.mpr c7;subst c7;rw [if_neg (show ¬ (false=true) by decide)] at H;(try dsimp only at H);obtain ⟨ji8,qW⟩:∃ j_:Int,(mx a0 (wrap64 (-a0)))=j_:=⟨_,rfl⟩;replace H:(if (ji8)>=a1 then ((bf.f kj2 (wrap64 ((wrap64 ((wrap64 ((wrap64 ((wrap64 ((wrap64 (-(ji8)))*(ji8)))*(ji8)))+(wrap64 ((wrap64 ((wrap64 (5*(ji8)))*(ji8)))*a1)))) - (wrap64 ((wrap64 ((wrap64 (8*(ji8)))*a1))*a1))))+(wrap64 ((wrap64 ((wrap64 (4*a1))*a1))*a1)))) 1073741824 (wrap64 ((wrap64 ((wrap64 (2*a1))*a1))*a1))).bind fun t139=>(some t139)) else ((bf.f kj2 (wrap64 ((wrap64 ((wrap64 ((wrap64 ((wrap64 (3*(ji8)))*(ji8)))*(ji8))) - (wrap64 ((wrap64 ((wrap64 (5*(ji8)))*(ji8)))*a1))))+(wrap64 ((wrap64 ((wrap64 (2*a1))*a1))*a1)))) 1073741824 (wrap64 ((wrap64 ((wrap64 (2*a1))*a1))*a1))).bind fun al7=>(some al7)))=some r:=(by first|(rw [qW] at H;exact H)|(simp only [qW] at H ⊢;exact H));have atv:(if a0 < (wrap64 (-a0)) then (wrap64 (-a0)) else a0)=ji8:=qW;by_cases c9:(ji8)>=a1
    ·rw [if_pos c9] at H;have qH:=decide_eq_true c9;clear c9;replace H:=zO H;obtain ⟨t139,A10,H⟩:=H;try dsimp only at H
     obtain rfl:=Option.some.inj H;go_wp2_with (first|((with_reducible refine ay (f:=130) rfl ?_);refine aH (some 85) rfl rfl Tryz.func130 (by kernel_rfl) rfl #[.int .i64 (wrap64 ((wrap64 ((wrap64 ((wrap64 ((wrap64 ((wrap64 (-(ji8)))*(ji8)))*(ji8)))+(wrap64 ((wrap64 ((wrap64 (5*(ji8)))*(ji8)))*a1)))) - (wrap64 ((wrap64 ((wrap64 (8*(ji8)))*a1))*a1))))+(wrap64 ((wrap64 ((wrap64 (4*a1))*a1))*a1)))),.int .i64 1073741824,.int .i64 (wrap64 ((wrap64 ((wrap64 (2*a1))*a1))*a1))] rfl (by (try simp only [List.map_toArray,List.map_cons,List.map_nil]);first|done|(simp only [qW];rfl)|(simp only [Int.tdiv_eq_ediv_of_nonneg hji8l];rfl)|rfl|(simp only [List.length_drop,List.length_take];rfl)) ?_;(with_reducible refine (bf.calls kj2 (wrap64 ((wrap64 ((wrap64 ((wrap64 ((wrap64 ((wrap64 (-(ji8)))*(ji8)))*(ji8)))+(wrap64 ((wrap64 ((wrap64 (5*(ji8)))*(ji8)))*a1)))) - (wrap64 ((wrap64 ((wrap64 (8*(ji8)))*a1))*a1))))+(wrap64 ((wrap64 ((wrap64 (4*a1))*a1))*a1)))) 1073741824 (wrap64 ((wrap64 ((wrap64 (2*a1))*a1))*a1)) t139 _ A10.out).mono ?_);rintro e w' ⟨rfl,⟨nd,rfl⟩⟩;refine ⟨_,rfl,?_⟩));go_ret;exact ⟨by first|rfl|(simp [bJ,bK] <;> rfl)|(simp only [<- qW];first|rfl|(simp [bJ,bK] <;> rfl))|(simp [*,bJ,bK] <;> rfl),zB⟩
    ·rw [if_neg c9] at H;have qH:=decide_eq_false c9;clear c9;replace H:=zO H;obtain ⟨al7,A11,H⟩:=H;try dsimp only at H
     obtain rfl:=Option.some.inj H;go_wp2_with (first|((with_reducible refine ay (f:=130) rfl ?_);refine aH (some 85) rfl rfl Tryz.func130 (by kernel_rfl) rfl #[.int .i64 (wrap64 ((wrap64 ((wrap64 ((wrap64 ((wrap64 (3*(ji8)))*(ji8)))*(ji8))) - (wrap64 ((wrap64 ((wrap64 (5*(ji8)))*(ji8)))*a1))))+(wrap64 ((wrap64 ((wrap64 (2*a1))*a1))*a1)))),.int .i64 1073741824,.int .i64 (wrap64 ((wrap64 ((wrap64 (2*a1))*a1))*a1))] rfl (by (try simp only [List.map_toArray,List.map_cons,List.map_nil]);first|done|(simp only [qW];rfl)|(simp only [Int.tdiv_eq_ediv_of_nonneg hji8l];rfl)|rfl|(simp only [List.length_drop,List.length_take];rfl)) ?_;(with_reducible refine (bf.calls kj2 (wrap64 ((wrap64 ((wrap64 ((wrap64 ((wrap64 (3*(ji8)))*(ji8)))*(ji8))) - (wrap64 ((wrap64 ((wrap64 (5*(ji8)))*(ji8)))*a1))))+(wrap64 ((wrap64 ((wrap64 (2*a1))*a1))*a1)))) 1073741824 (wrap64 ((wrap64 ((wrap64 (2*a1))*a1))*a1)) al7 _ A11.out).mono ?_);rintro e w' ⟨rfl,⟨nd,rfl⟩⟩;refine ⟨_,rfl,?_⟩));go_ret;exact ⟨by first|rfl|(simp [bJ,bK] <;> rfl)|(simp only [<- qW];first|rfl|(simp [bJ,bK] <;> rfl))|(simp [*,bJ,bK] <;> rfl),zB⟩
def lF.f (a0 a1:Int):Option (Int):=if a1<=0 then (some a0) else (if a1>=64 then (some 0) else (if 0<=a1 then (if 0<=(wrap64 (a1 - 1)) then (some (wrap64 ((shr .i64 a0 a1)+(Go.bits .and .i64 (shr .i64 a0 (wrap64 (a1 - 1))) 1)))) else (none)) else (none)))
theorem lF.calls (a0 a1 r:Int) (w:World) (h:lF.f a0 a1=some r) :
  Calls Tryz.prog 100 #[.int .i64 a0,.int .i64 a1] w fun e w'=>e = .returned (.int .i64 r)/\dG w w':=by
 have H:=h;clear h;unfold lF.f at H;by_cases c3:a1<=0
 ·rw [if_pos c3] at H;have gI:=decide_eq_true c3;clear c3;obtain rfl:=Option.some.inj H;go_enter Tryz.func100,Tryz.ntmps100;go_wp2;repeat (go_quiet (fail);try go_wp2)
  go_ret;exact ⟨zT,zW⟩
 ·rw [if_neg c3] at H;have gI:=decide_eq_false c3;clear c3;by_cases c4:a1>=64
  ·rw [if_pos c4] at H;have fG:=decide_eq_true c4;clear c4;obtain rfl:=Option.some.inj H;go_enter Tryz.func100,Tryz.ntmps100;go_wp2;repeat (go_quiet (fail);try go_wp2)
   go_ret;exact ⟨zT,zW⟩
  ·rw [if_neg c4] at H;have fG:=decide_eq_false c4;clear c4;by_cases c5:0<=a1
   ·rw [if_pos c5] at H;have iy:=eq_true c5;have acn:=decide_eq_true c5;clear c5;obtain ⟨ji6,uH⟩:∃ j_:Int,(shr .i64 a0 a1)=j_:=⟨_,rfl⟩;replace H:(if 0<=(wrap64 (a1 - 1)) then (some (wrap64 ((ji6)+(Go.bits .and .i64 (shr .i64 a0 (wrap64 (a1 - 1))) 1)))) else (none))=some r:=(by first|(rw [uH] at H;exact H)|(simp only [uH] at H ⊢;exact H));have as9:(a0 / 2 ^ min a1.toNat 64)=ji6:=uH;have aw3:a1<=64->(a0 / 2 ^ a1.toNat)=ji6:=qE uH;obtain ⟨ji7,yu⟩:∃ j_:Int,(wrap64 (a1 - 1))=j_:=⟨_,rfl⟩;replace H:(if 0<=(ji7) then (some (wrap64 ((ji6)+(Go.bits .and .i64 (shr .i64 a0 (ji7)) 1)))) else (none))=some r:=(by first|(rw [yu] at H;exact H)|(simp only [yu] at H ⊢;exact H));have aDN:(IntKind.i64.wrap (a1 - 1))=ji7:=(cZ _).trans yu;by_cases c8:0<=(ji7)
    ·rw [if_pos c8] at H;have vS:=eq_true c8;have ab4:=decide_eq_true c8;clear c8;obtain ⟨ji9,nN⟩:∃ j_:Int,(shr .i64 a0 (ji7))=j_:=⟨_,rfl⟩;replace H:(some (wrap64 ((ji6)+(Go.bits .and .i64 (ji9) 1))))=some r:=(by first|(rw [nN] at H;exact H)|(simp only [nN] at H ⊢;exact H));have anL:(a0 / 2 ^ min (ji7).toNat 64)=ji9:=nN;have ayh:(ji7)<=64->(a0 / 2 ^ (ji7).toNat)=ji9:=qE nN;obtain rfl:=Option.some.inj H;go_enter Tryz.func100,Tryz.ntmps100;go_wp2;repeat (go_quiet (fail);try go_wp2)
     go_ret;exact ⟨by first|rfl|(simp;done)|(simp only [<- uH,<- yu,<- nN] <;> (first|rfl|simp))|(simp [*];done),zW⟩
    ·rw [if_neg c8] at H;exact absurd H (by simp)
   ·rw [if_neg c5] at H;exact absurd H (by simp)
def xg.f (a0 a1:Int):Option (Bool):=if a1>=1 then (if a1<=1048576 then (if a0>=(wrap64 ((-4)*a1)) then (some (decide (a0<=(wrap64 (4*a1))))) else (some false)) else (some false)) else (some false)
theorem xg.calls (a0 a1:Int) (r:Bool) (w:World) (h:xg.f a0 a1=some r) :
  Calls Tryz.prog 174 #[.int .i64 a0,.int .i64 a1] w fun e w'=>e = .returned (.bool r)/\dG w w':=by
 have H:=h;clear h;unfold xg.f at H;by_cases c3:a1>=1
 ·rw [if_pos c3] at H;have gI:=decide_eq_true c3;clear c3;by_cases c4:a1<=1048576
  ·rw [if_pos c4] at H;have fG:=decide_eq_true c4;clear c4;by_cases c5:a0>=(wrap64 ((-4)*a1))
   ·rw [if_pos c5] at H;have iy:=decide_eq_true c5;clear c5;obtain rfl:=Option.some.inj H;go_enter Tryz.func174,Tryz.ntmps174;go_wp2;go_ret;exact ⟨zT,zW⟩
   ·rw [if_neg c5] at H;have iy:=decide_eq_false c5;clear c5;obtain rfl:=Option.some.inj H;go_enter Tryz.func174,Tryz.ntmps174;go_wp2;go_ret;exact ⟨zT,zW⟩
  ·rw [if_neg c4] at H;have fG:=decide_eq_false c4;clear c4;obtain rfl:=Option.some.inj H;go_enter Tryz.func174,Tryz.ntmps174;go_wp2;go_ret;exact ⟨zT,zW⟩
 ·rw [if_neg c3] at H;have gI:=decide_eq_false c3;clear c3;obtain rfl:=Option.some.inj H;go_enter Tryz.func174,Tryz.ntmps174;go_wp2;go_ret;exact ⟨zT,zW⟩
def tq.f (a0:Int):Option (Int):=some (mx a0 (wrap64 (-a0)))
theorem tq.calls (a0 r:Int) (w:World) (h:tq.f a0=some r) :
  Calls Tryz.prog 175 #[.int .i64 a0] w fun e w'=>e = .returned (.int .i64 r)/\Below w.heap.size w w':=by
 have HB:=aj.mk (Below.refl w.heap.size w);have H:=h;clear h;unfold tq.f at H;obtain ⟨ji2,aaS⟩:∃ j_:Int,(mx a0 (wrap64 (-a0)))=j_:=⟨_,rfl⟩;replace H:(some ji2)=some r:=(by first|(rw [aaS] at H;exact H)|(simp only [aaS] at H ⊢;exact H));have ayi:(if a0 < (wrap64 (-a0)) then (wrap64 (-a0)) else a0)=ji2:=aaS;obtain rfl:=Option.some.inj H;go_enter Tryz.func175,Tryz.ntmps175;go_wp2;go_ret;exact ⟨by first|rfl|(simp [bJ,bK] <;> rfl)|(simp only [<- aaS];first|rfl|(simp [bJ,bK] <;> rfl))|(simp [*,bJ,bK] <;> rfl),zB⟩
def oZ.f (a0 a1 a2:Int):Option (Int × Int):=if a2>=64 then (if 0<=(wrap64 (a2 - 64)) then (some (0,shr .u64 a0 (wrap64 (a2 - 64)))) else (none)) else (if 0<=a2 then (if 0<=(wrap64 (64 - a2)) then (some (shr .u64 a0 a2,Go.bits .or .u64 (shr .u64 a1 a2) (shl .u64 a0 (wrap64 (64 - a2))))) else (none)) else (none))
theorem oZ.calls (a0 a1 a2 r1 r2:Int) (w:World) (h:oZ.f a0 a1 a2=some (r1,r2)) :
  Calls Tryz.prog 188 #[.int .u64 a0,.int .u64 a1,.int .i64 a2] w fun e w'=>e = .returned (.tuple #[.int .u64 r1,.int .u64 r2])/\dG w w':=by
 have H:=h;clear h;unfold oZ.f at H;by_cases c4:a2>=64
 ·rw [if_pos c4] at H;have fG:=decide_eq_true c4;clear c4;obtain ⟨ji5,yw⟩:∃ j_:Int,(wrap64 (a2 - 64))=j_:=⟨_,rfl⟩;replace H:(if 0<=(ji5) then (some (0,shr .u64 a0 (ji5))) else (none))=some (r1,r2):=(by first|(rw [yw] at H;exact H)|(simp only [yw] at H ⊢;exact H));have aDO:(IntKind.i64.wrap (a2 - 64))=ji5:=(cZ _).trans yw;by_cases c6:0<=(ji5)
  ·rw [if_pos c6] at H;have iF:=eq_true c6;have vP:=decide_eq_true c6;clear c6;obtain ⟨ji7,yu⟩:∃ j_:Int,(shr .u64 a0 (ji5))=j_:=⟨_,rfl⟩;replace H:(some (0,ji7))=some (r1,r2):=(by first|(rw [yu] at H;exact H)|(simp only [yu] at H ⊢;exact H));have ayj:(a0 / 2 ^ min (ji5).toNat 64)=ji7:=yu;have aDP:(ji5)<=64->(a0 / 2 ^ (ji5).toNat)=ji7:=qE yu;simp only [Option.some.injEq,Prod.mk.injEq] at H;obtain ⟨rfl,rfl⟩:=H;go_enter Tryz.func188,Tryz.ntmps188;go_wp2;repeat (go_quiet (fail);try go_wp2)
   go_ret2;exact ⟨by first|rfl|(simp;done)|(simp only [<- yw,<- yu] <;> (first|rfl|simp))|(simp [*];done),zW⟩
  ·rw [if_neg c6] at H;exact absurd H (by simp)
 ·rw [if_neg c4] at H;have fG:=decide_eq_false c4;clear c4;by_cases c8:0<=a2
  ·rw [if_pos c8] at H;have vS:=eq_true c8;have ab4:=decide_eq_true c8;clear c8;obtain ⟨ji9,nN⟩:∃ j_:Int,(shr .u64 a0 a2)=j_:=⟨_,rfl⟩;replace H:(if 0<=(wrap64 (64 - a2)) then (some (ji9,Go.bits .or .u64 (shr .u64 a1 a2) (shl .u64 a0 (wrap64 (64 - a2))))) else (none))=some (r1,r2):=(by first|(rw [nN] at H;exact H)|(simp only [nN] at H ⊢;exact H));have anL:(a0 / 2 ^ min a2.toNat 64)=ji9:=nN;have ayh:a2<=64->(a0 / 2 ^ a2.toNat)=ji9:=qE nN;have pX:=eq_true (of_decide_eq_true (by first|(with_reducible assumption)|assumption):0<=a2);obtain ⟨aee,aau⟩:∃ j_:Int,(shr .u64 a1 a2)=j_:=⟨_,rfl⟩;replace H:(if 0<=(wrap64 (64 - a2)) then (some (ji9,Go.bits .or .u64 (aee) (shl .u64 a0 (wrap64 (64 - a2))))) else (none))=some (r1,r2):=(by first|(rw [aau] at H;exact H)|(simp only [aau] at H ⊢;exact H));have avW:(a1 / 2 ^ min a2.toNat 64)=aee:=aau;have avX:a2<=64->(a1 / 2 ^ a2.toNat)=aee:=qE aau;obtain ⟨jD,pY⟩:∃ j_:Int,(wrap64 (64 - a2))=j_:=⟨_,rfl⟩;replace H:(if 0<=(jD) then (some (ji9,Go.bits .or .u64 (aee) (shl .u64 a0 (jD)))) else (none))=some (r1,r2):=(by first|(rw [pY] at H;exact H)|(simp only [pY] at H ⊢;exact H));have aBo:(IntKind.i64.wrap (64 - a2))=jD:=(cZ _).trans pY;by_cases c13:0<=(jD)
   ·rw [if_pos c13] at H;have aa1:=eq_true c13;have aii:=decide_eq_true c13;clear c13;obtain ⟨arZ,aij⟩:∃ j_:Int,(shl .u64 a0 (jD))=j_:=⟨_,rfl⟩;replace H:(some (ji9,Go.bits .or .u64 (aee) (arZ)))=some (r1,r2):=(by first|(rw [aij] at H;exact H)|(simp only [aij] at H ⊢;exact H));have aBp:(IntKind.u64.wrap (a0*2 ^ min (jD).toNat 64))=arZ:=aij;have aBq:(jD)<=64->(IntKind.u64.wrap (a0*2 ^ (jD).toNat))=arZ:=yX aij;simp only [Option.some.injEq,Prod.mk.injEq] at H;obtain ⟨rfl,rfl⟩:=H;go_enter Tryz.func188,Tryz.ntmps188;go_wp2;repeat (go_quiet (fail);try go_wp2)
    go_ret2;exact ⟨by first|rfl|(simp;done)|(simp only [<- nN,<- aau,<- pY,<- aij] <;> (first|rfl|simp))|(simp [*];done),zW⟩
   ·rw [if_neg c13] at H;exact absurd H (by simp)
  ·rw [if_neg c8] at H;exact absurd H (by simp)
def sZ.f (a0 a1 a2:Int):Option (Bool):=if a2>=64 then (if a1=0 then (if 0<=(wrap64 (128 - a2)) then (some ((shl .u64 a0 (wrap64 (128 - a2))) == 0)) else (none)) else (some false)) else (if 0<=(wrap64 (64 - a2)) then (some ((shl .u64 a1 (wrap64 (64 - a2))) == 0)) else (none))
theorem sZ.calls (a0 a1 a2:Int) (r:Bool) (w:World) (h:sZ.f a0 a1 a2=some r) :
  Calls Tryz.prog 189 #[.int .u64 a0,.int .u64 a1,.int .i64 a2] w fun e w'=>e = .returned (.bool r)/\dG w w':=by
 have H:=h;clear h;unfold sZ.f at H;by_cases c4:a2>=64
 ·rw [if_pos c4] at H;have fG:=decide_eq_true c4;clear c4;by_cases c5:a1=0
  ·rw [if_pos c5] at H;have iy:(a1 == 0)=true:=beq_iff_eq.mpr c5;have acn:(a1 != 0)=false:=bne_eq_false_iff_eq.mpr c5;clear c5;obtain ⟨ji6,uH⟩:∃ j_:Int,(wrap64 (128 - a2))=j_:=⟨_,rfl⟩;replace H:(if 0<=(ji6) then (some ((shl .u64 a0 (ji6)) == 0)) else (none))=some r:=(by first|(rw [uH] at H;exact H)|(simp only [uH] at H ⊢;exact H));have aDQ:(IntKind.i64.wrap (128 - a2))=ji6:=(cZ _).trans uH;by_cases c7:0<=(ji6)
   ·rw [if_pos c7] at H;have jk:=eq_true c7;have aaB:=decide_eq_true c7;clear c7;obtain ⟨ji8,qW⟩:∃ j_:Int,(shl .u64 a0 (ji6))=j_:=⟨_,rfl⟩;replace H:(some ((ji8) == 0))=some r:=(by first|(rw [qW] at H;exact H)|(simp only [qW] at H ⊢;exact H));have atv:(IntKind.u64.wrap (a0*2 ^ min (ji6).toNat 64))=ji8:=qW;have aDR:(ji6)<=64->(IntKind.u64.wrap (a0*2 ^ (ji6).toNat))=ji8:=yX qW;obtain rfl:=Option.some.inj H;go_enter Tryz.func189,Tryz.ntmps189;go_wp2;go_ret;exact ⟨by first|rfl|(simp;done)|(simp only [<- uH,<- qW] <;> (first|rfl|simp))|(simp [*];done),zW⟩
   ·rw [if_neg c7] at H;exact absurd H (by simp)
  ·rw [if_neg c5] at H;have iy:(a1 == 0)=false:=beq_eq_false_iff_ne.mpr c5;have acn:(a1 != 0)=true:=bne_iff_ne.mpr c5;obtain rfl:=Option.some.inj H;go_enter Tryz.func189,Tryz.ntmps189;go_wp2;go_ret;exact ⟨zT,zW⟩
 ·rw [if_neg c4] at H;have fG:=decide_eq_false c4;clear c4;obtain ⟨ji9,nN⟩:∃ j_:Int,(wrap64 (64 - a2))=j_:=⟨_,rfl⟩;replace H:(if 0<=(ji9) then (some ((shl .u64 a1 (ji9)) == 0)) else (none))=some r:=(by first|(rw [nN] at H;exact H)|(simp only [nN] at H ⊢;exact H));have aDS:(IntKind.i64.wrap (64 - a2))=ji9:=(cZ _).trans nN;by_cases c10:0<=(ji9)
  ·rw [if_pos c10] at H;have pX:=eq_true c10;have ahP:=decide_eq_true c10;clear c10;obtain ⟨aee,aau⟩:∃ j_:Int,(shl .u64 a1 (ji9))=j_:=⟨_,rfl⟩;replace H:(some ((aee) == 0))=some r:=(by first|(rw [aau] at H;exact H)|(simp only [aau] at H ⊢;exact H));have avW:(IntKind.u64.wrap (a1*2 ^ min (ji9).toNat 64))=aee:=aau;have avX:(ji9)<=64->(IntKind.u64.wrap (a1*2 ^ (ji9).toNat))=aee:=yX aau;obtain rfl:=Option.some.inj H;go_enter Tryz.func189,Tryz.ntmps189;go_wp2;go_ret;exact ⟨by first|rfl|(simp;done)|(simp only [<- nN,<- aau] <;> (first|rfl|simp))|(simp [*];done),zW⟩
  ·rw [if_neg c10] at H;exact absurd H (by simp)
def dI.j0:Nat->Bool->Int->Int->Bool->Option (Int)
 | 0,_,_,_,_=>none
 | k+1,x9,x10,x11,x59=>if x59=true then ((dB.f k x10 x11 x9).bind fun ar0=>(some ar0)) else ((dB.f k (IntKind.u64.wrap (x10+(qG x11 1 0))) (qF x11 1 0) x9).bind fun ar1=>(some ar1))
def dI.f (k:Nat) (a0 a1 a2:Int):Option (Int):=if (mx 0 a2)>=128 then (some 0) else ((kR.f a0 a1).bind fun mY=>(if (mx 0 a2)=0 then ((dB.f k mY.1 mY.2.1 mY.2.2).bind fun al8=>(some al8)) else ((oZ.f mY.1 mY.2.1 (mx 0 a2)).bind fun xU=>((oZ.f mY.1 mY.2.1 (wrap64 ((mx 0 a2) - 1))).bind fun aoP=>(if (Go.bits .and .u64 aoP.2 1)=0 then (dI.j0 k mY.2.2 xU.1 xU.2 true) else (if mY.2.2=true then ((sZ.f mY.1 mY.2.1 (wrap64 ((mx 0 a2) - 1))).bind fun ajl=>(dI.j0 k mY.2.2 xU.1 xU.2 ajl)) else (dI.j0 k mY.2.2 xU.1 xU.2 false)))))))
theorem dI.jg:∀ k,(∀ y0 y1 y2 y3,LeO (dI.j0 k y0 y1 y2 y3) (dI.j0 (k+1) y0 y1 y2 y3))
 | 0=>fun _ _ _ _ r h=>by simp [dI.j0] at h
 | k+1=>by
  have ih0:=dI.jg k
  ·intro y0 y1 y2 y3;unfold dI.j0;repeat' (with_reducible first|exact ih0 _ _ _ _|exact dB.mono _ _ _ _|exact zM|refine LeO.ite ?_ ?_|refine LeO.bind ?_ (fun _ => ?_))
theorem dI.mono:∀ a0 a1 a2 k,LeO (dI.f k a0 a1 a2) (dI.f (k+1) a0 a1 a2):=by
 intro a0 a1 a2 k;have ih0:=dI.jg k;unfold dI.f;repeat' (with_reducible first|exact ih0 _ _ _ _|exact dB.mono _ _ _ _|exact zM|refine LeO.ite ?_ ?_|refine LeO.bind ?_ (fun _ => ?_))
theorem dI.calls (k:Nat) (a0 a1 a2 r:Int) (w:World) (h:dI.f k a0 a1 a2=some r) :
  Calls Tryz.prog 176 #[.int .i64 a0,.int .i64 a1,.int .i64 a2] w fun e w'=>e = .returned (.int .i64 r)/\Below w.heap.size w w':=by
 have HB:=aj.mk (Below.refl w.heap.size w);have H:=h;clear h;unfold dI.f at H;obtain ⟨ji4,qo⟩:∃ j_:Int,(mx 0 a2)=j_:=⟨_,rfl⟩;replace H:(if (ji4)>=128 then (some 0) else ((kR.f a0 a1).bind fun mY=>(if (ji4)=0 then ((dB.f k mY.1 mY.2.1 mY.2.2).bind fun al8=>(some al8)) else ((oZ.f mY.1 mY.2.1 (ji4)).bind fun xU=>((oZ.f mY.1 mY.2.1 (wrap64 ((ji4) - 1))).bind fun aoP=>(if (Go.bits .and .u64 aoP.2 1)=0 then (dI.j0 k mY.2.2 xU.1 xU.2 true) else (if mY.2.2=true then ((sZ.f mY.1 mY.2.1 (wrap64 ((ji4) - 1))).bind fun ajl=>(dI.j0 k mY.2.2 xU.1 xU.2 ajl)) else (dI.j0 k mY.2.2 xU.1 xU.2 false))))))))=some r:=by first|(rw [qo] at H;exact H)|(simp only [qo] at H ⊢;exact H)
 (try (have atw:0<=ji4:=by (rw [<- qo];unfold mx;(repeat' split) <;> omega)))
 (try (have aDT:0<=ji4:=by omega))
 have atx:(if 0 < a2 then a2 else 0)=ji4:=qo;by_cases c5:(ji4)>=128
 ·rw [if_pos c5] at H;have iy:=decide_eq_true c5;clear c5;obtain rfl:=Option.some.inj H;go_enter Tryz.func176,Tryz.ntmps176;go_wp2;go_ret;exact ⟨by first|rfl|(simp [bJ,bK] <;> rfl)|(simp only [<- qo];first|rfl|(simp [bJ,bK] <;> rfl))|(simp [*,bJ,bK] <;> rfl),zB⟩
 ·rw [if_neg c5] at H;have iy:=decide_eq_false c5;clear c5;replace H:=zO H;obtain ⟨⟨t141,aef,t143⟩,A6,H⟩:=H;try dsimp only at H
  by_cases c7:(ji4)=0
  ·rw [if_pos c7] at H;have jk:((ji4) == 0)=true:=beq_iff_eq.mpr c7;have aaB:((ji4) != 0)=false:=bne_eq_false_iff_eq.mpr c7;clear c7;replace H:=zO H;obtain ⟨al8,A8,H⟩:=H;try dsimp only at H
   obtain rfl:=Option.some.inj H;go_enter Tryz.func176,Tryz.ntmps176;go_wp2_with (first|((with_reducible refine ay (f:=154) rfl ?_);refine aH (some 22) rfl rfl Tryz.func154 (by kernel_rfl) rfl #[.int .i64 a0,.int .i64 a1] rfl zL ?_;(with_reducible refine (kR.calls a0 a1 t141 aef t143 _ A6.out).mono ?_);rintro e w' ⟨rfl,⟨nd,rfl⟩⟩;refine ⟨_,rfl,?_⟩)|((with_reducible refine ay (f:=156) rfl ?_);refine aH (some 31) rfl rfl Tryz.func156 (by kernel_rfl) rfl #[.int .u64 t141,.int .u64 aef,.bool t143] rfl zL ?_;(with_reducible refine (dB.calls k t141 aef t143 al8 _ A8.out).mono ?_);rintro e w' ⟨rfl,⟨nd,rfl⟩⟩;refine ⟨_,rfl,?_⟩));go_ret;exact ⟨by first|rfl|(simp [bJ,bK] <;> rfl)|(simp only [<- qo];first|rfl|(simp [bJ,bK] <;> rfl))|(simp [*,bJ,bK] <;> rfl),zB⟩
  ·rw [if_neg c7] at H;have jk:((ji4) == 0)=false:=beq_eq_false_iff_ne.mpr c7;have aaB:((ji4) != 0)=true:=bne_iff_ne.mpr c7;replace H:=zO H;obtain ⟨⟨t145,t146⟩,A9,H⟩:=H;try dsimp only at H
   replace H:=zO H;obtain ⟨⟨azp,t148⟩,A10,H⟩:=H;try dsimp only at H
   have ar2:=aj.mk H;clear H;go_enter Tryz.func176,Tryz.ntmps176;go_upto_region 9 with (first|((with_reducible refine ay (f:=154) rfl ?_);refine aH (some 22) rfl rfl Tryz.func154 (by kernel_rfl) rfl #[.int .i64 a0,.int .i64 a1] rfl zL ?_;(with_reducible refine (kR.calls a0 a1 t141 aef t143 _ A6.out).mono ?_);rintro e w' ⟨rfl,⟨nd,rfl⟩⟩;refine ⟨_,rfl,?_⟩)|((with_reducible refine ay (f:=188) rfl ?_);refine aH (some 36) rfl rfl Tryz.func188 (by kernel_rfl) rfl #[.int .u64 t141,.int .u64 aef,.int .i64 ji4] rfl (by (try simp only [List.map_toArray,List.map_cons,List.map_nil]);first|done|(simp only [qo];rfl)|(simp only [Int.tdiv_eq_ediv_of_nonneg atw];rfl)|rfl|(simp only [List.length_drop,List.length_take];rfl)) ?_;(with_reducible refine (oZ.calls t141 aef ji4 t145 t146 _ A9.out).mono ?_);rintro e w' ⟨rfl,⟨nd,rfl⟩⟩;refine ⟨_,rfl,?_⟩)|((with_reducible refine ay (f:=188) rfl ?_);refine aH (some 44) rfl rfl Tryz.func188 (by kernel_rfl) rfl #[.int .u64 t141,.int .u64 aef,.int .i64 (wrap64 ((ji4) - 1))] rfl (by (try simp only [List.map_toArray,List.map_cons,List.map_nil]);first|done|(simp only [qo];rfl)|(simp only [Int.tdiv_eq_ediv_of_nonneg atw];rfl)|rfl|(simp only [List.length_drop,List.length_take];rfl)) ?_;(with_reducible refine (oZ.calls t141 aef (wrap64 ((ji4) - 1)) azp t148 _ A10.out).mono ?_);rintro e w' ⟨rfl,⟨nd,rfl⟩⟩;refine ⟨_,rfl,?_⟩))
   (try simp only [Act.put,List.setIfInBounds_toArray,List.set_cons_zero,List.set_cons_succ])
   go_cut [59] (fun v59 wc=>∃ (kq:Nat) (aik:Bool),v59 = .bool aik/\aj (dI.j0 kq t143 t145 t146 aik=some r)/\aj (kq<=k)/\aj (Below w.heap.size w wc))
   case first =>
    have H:=ar2.out;clear ar2;by_cases c12:(Go.bits .and .u64 t148 1)=0
    ·rw [if_pos c12] at H;have aa2:((Go.bits .and .u64 t148 1) == 0)=true:=beq_iff_eq.mpr c12;have aty:((Go.bits .and .u64 t148 1) != 0)=false:=bne_eq_false_iff_eq.mpr c12;clear c12
     (first|rw [aa2]|(simp only [cZ,dD];rw [aa2])|skip)
     have H':=aj.mk H;clear H;go_wp2;go_meet
     case rel=>exact ⟨_,(true),zT,H',⟨by first|omega|exact Nat.le_refl _⟩,⟨zB⟩⟩
    ·rw [if_neg c12] at H;have aa2:((Go.bits .and .u64 t148 1) == 0)=false:=beq_eq_false_iff_ne.mpr c12;have aty:((Go.bits .and .u64 t148 1) != 0)=true:=bne_iff_ne.mpr c12
     (first|rw [aa2]|(simp only [cZ,dD];rw [aa2])|skip)
     by_cases c13:t143=true
     ·subst c13;rw [if_pos rfl] at H;(try dsimp only at H);replace H:=zO H;obtain ⟨ajl,A14,H⟩:=H;try dsimp only at H
      have H':=aj.mk H;clear H;go_wp2_with (first|(go_at_call 189;(with_reducible refine (sZ.calls t141 aef (wrap64 ((ji4) - 1)) ajl _ A14.out).mono ?_);rintro e w' ⟨rfl,⟨nd,rfl⟩⟩));go_meet
      case rel=>exact ⟨_,(ajl),zT,H',⟨by first|omega|exact Nat.le_refl _⟩,⟨zB⟩⟩
     ·replace c13:=Bool.eq_false_iff.mpr c13;subst c13;rw [if_neg (show ¬ (false=true) by decide)] at H;(try dsimp only at H);have H':=aj.mk H;clear H;go_wp2;go_meet
      case rel=>exact ⟨_,(false),zT,H',⟨by first|omega|exact Nat.le_refl _⟩,⟨zB⟩⟩
   case rest =>
    clear ar2;obtain ⟨kq,aik,rfl,HA,aED,HB⟩:=hcut;cases kq with
    | zero=>exact absurd HA.out (by simp [dI.j0])
    | succ avY =>
     have H:=HA.out;clear HA;simp only [dI.j0] at H;by_cases c15:aik=true
     ·subst c15;rw [if_pos rfl] at H;(try dsimp only at H);replace H:=zO H;obtain ⟨ar0,A16,H⟩:=H;try dsimp only at H
      obtain rfl:=Option.some.inj H;go_wp2_with (first|((with_reducible refine ay (f:=156) rfl ?_);refine aH (some 63) rfl rfl Tryz.func156 (by kernel_rfl) rfl #[.int .u64 t145,.int .u64 t146,.bool t143] rfl zL ?_;(with_reducible refine (dB.calls avY t145 t146 t143 ar0 _ A16.out).mono ?_);rintro e w' ⟨rfl,⟨nd,rfl⟩⟩;refine ⟨_,rfl,?_⟩));go_ret;exact ⟨by first|rfl|(simp [bJ,bK] <;> rfl)|(simp only [<- qo];first|rfl|(simp [bJ,bK] <;> rfl))|(simp [*,bJ,bK] <;> rfl),zB⟩
     ·replace c15:=Bool.eq_false_iff.mpr c15;subst c15;rw [if_neg (show ¬ (false=true) by decide)] at H;(try dsimp only at H);replace H:=zO H;obtain ⟨ar1,A17,H⟩:=H;try dsimp only at H
      obtain rfl:=Option.some.inj H;go_wp2_with (first|((with_reducible refine ay (f:=156) rfl ?_);refine aH (some 74) rfl rfl Tryz.func156 (by kernel_rfl) rfl #[.int .u64 (IntKind.u64.wrap (t145+(qG t146 1 0))),.int .u64 (qF t146 1 0),.bool t143] rfl zL ?_;(with_reducible refine (dB.calls avY (IntKind.u64.wrap (t145+(qG t146 1 0))) (qF t146 1 0) t143 ar1 _ A17.out).mono ?_);rintro e w' ⟨rfl,⟨nd,rfl⟩⟩;refine ⟨_,rfl,?_⟩));go_ret;exact ⟨by first|rfl|(simp [bJ,bK] <;> rfl)|(simp only [<- qo];first|rfl|(simp [bJ,bK] <;> rfl))|(simp [*,bJ,bK] <;> rfl),zB⟩
def fC.l0:Nat->Int->Int->Int->Int->Int->Option (Int)
 | 0,_,_,_,_,_=>none
 | k+1,x5,x6,x7,x8,x9=>if x9<=30 then ((bf.f k x7 x5 (wrap64 ((wrap64 ((wrap64 (2*x9))*(wrap64 ((wrap64 (2*x9))+1))))*1099511627776))).bind fun ajm=>(fC.l0 k x5 (wrap64 (x6+(wrap64 ((wrap64 (-x8))*ajm)))) ajm (wrap64 (-x8)) (wrap64 (x9+1)))) else (some x6)
def fC.f (k:Nat) (a0 a1:Int):Option (Int):=(tq.f a0).bind fun t152=>((bf.f k 10851744800547 t152 a1).bind fun al9=>((bf.f k al9 t152 a1).bind fun t154=>(fC.l0 k t154 1099511627776 1099511627776 1 1)))
theorem fC.jg:∀ k,(∀ y0 y1 y2 y3 y4,LeO (fC.l0 k y0 y1 y2 y3 y4) (fC.l0 (k+1) y0 y1 y2 y3 y4))
 | 0=>fun _ _ _ _ _ r h=>by simp [fC.l0] at h
 | k+1=>by
  have ih0:=fC.jg k
  ·intro y0 y1 y2 y3 y4;unfold fC.l0;repeat' (with_reducible first|exact ih0 _ _ _ _ _|exact bf.mono _ _ _ _|exact zM|refine LeO.ite ?_ ?_|refine LeO.bind ?_ (fun _ => ?_))
theorem fC.mono:∀ a0 a1 k,LeO (fC.f k a0 a1) (fC.f (k+1) a0 a1):=by
 intro a0 a1 k;have ih0:=fC.jg k;unfold fC.f;repeat' (with_reducible first|exact ih0 _ _ _ _ _|exact bf.mono _ _ _ _|exact zM|refine LeO.ite ?_ ?_|refine LeO.bind ?_ (fun _ => ?_))
theorem fC.calls (k:Nat) (a0 a1 r:Int) (w:World) (h:fC.f k a0 a1=some r) :
  Calls Tryz.prog 177 #[.int .i64 a0,.int .i64 a1] w fun e w'=>e = .returned (.int .i64 r)/\Below w.heap.size w w':=by
 have HB:=aj.mk (Below.refl w.heap.size w);have H:=h;clear h;unfold fC.f at H;replace H:=zO H;obtain ⟨t152,A3,H⟩:=H;try dsimp only at H
 replace H:=zO H;obtain ⟨al9,A4,H⟩:=H;try dsimp only at H
 replace H:=zO H;obtain ⟨t154,A5,H⟩:=H;try dsimp only at H
 have H':=aj.mk H;clear H;go_enter Tryz.func177,Tryz.ntmps177;go_wp2_with (first|((with_reducible refine ay (f:=175) rfl ?_);refine aH (some 11) rfl rfl Tryz.func175 (by kernel_rfl) rfl #[.int .i64 a0] rfl zL ?_;(with_reducible refine (tq.calls a0 t152 _ A3.out).mono ?_);rintro e w6 ⟨rfl,hb⟩;refine ⟨_,rfl,?_⟩;replace HB:=aj.mk (ak zB hb);(try clear hb))|((with_reducible refine ay (f:=130) rfl ?_);refine aH (some 14) rfl rfl Tryz.func130 (by kernel_rfl) rfl #[.int .i64 10851744800547,.int .i64 t152,.int .i64 a1] rfl zL ?_;(with_reducible refine (bf.calls k 10851744800547 t152 a1 al9 _ A4.out).mono ?_);rintro e w' ⟨rfl,⟨nd,rfl⟩⟩;refine ⟨_,rfl,?_⟩)|((with_reducible refine ay (f:=130) rfl ?_);refine aH (some 17) rfl rfl Tryz.func130 (by kernel_rfl) rfl #[.int .i64 al9,.int .i64 t152,.int .i64 a1] rfl zL ?_;(with_reducible refine (bf.calls k al9 t152 a1 t154 _ A5.out).mono ?_);rintro e w' ⟨rfl,⟨nd,rfl⟩⟩;refine ⟨_,rfl,?_⟩));go_loopg [6,7,8,9] k (fun kq v6 v7 v8 v9 w'=>∃ (qK:Int) (ama:Int) (iE:Int) (uJ:Int),v6 = .int .i64 qK/\v7 = .int .i64 ama/\v8 = .int .i64 iE/\v9 = .int .i64 uJ/\aj (fC.l0 kq t154 qK ama iE uJ=some r)/\aj (kq<=k)/\aj (Below w.heap.size w w'))
 case atStart=>exact ⟨(1099511627776),(1099511627776),(1),(1),zT,zT,zT,zT,H',⟨Nat.le_refl _⟩,⟨zB⟩⟩
 case round =>
  clear H';obtain ⟨qK,ama,iE,uJ,rfl,rfl,rfl,rfl,HA,HK1,HB⟩:=hrel;cases gk with
  | zero=>exact absurd HA.out (by simp [fC.l0])
  | succ k1 =>
   have H:=HA.out;clear HA;simp only [fC.l0] at H;by_cases c7:uJ<=30
   ·rw [if_pos c7] at H;have jk:=decide_eq_true c7;clear c7;replace H:=zO H;obtain ⟨ajm,A8,H⟩:=H;try dsimp only at H
    have H':=aj.mk H;clear H;go_wp2_with (first|((with_reducible refine ay (f:=130) rfl ?_);refine aH (some 33) rfl rfl Tryz.func130 (by kernel_rfl) rfl #[.int .i64 ama,.int .i64 t154,.int .i64 (wrap64 ((wrap64 ((wrap64 (2*uJ))*(wrap64 ((wrap64 (2*uJ))+1))))*1099511627776))] rfl zL ?_;(with_reducible refine (bf.calls k1 ama t154 (wrap64 ((wrap64 ((wrap64 (2*uJ))*(wrap64 ((wrap64 (2*uJ))+1))))*1099511627776)) ajm _ A8.out).mono ?_);rintro e w' ⟨rfl,⟨nd,rfl⟩⟩;refine ⟨_,rfl,?_⟩));go_roundg k1
    case measure=>have:=HK1.out;omega
    case rel=>exact ⟨(wrap64 (qK+(wrap64 ((wrap64 (-iE))*ajm)))),(ajm),(wrap64 (-iE)),(wrap64 (uJ+1)),zT,zT,zT,zT,H',⟨by have:=HK1.out;omega⟩,⟨zB⟩⟩
   ·rw [if_neg c7] at H;have jk:=decide_eq_false c7;clear c7;obtain rfl:=Option.some.inj H;go_wp2;go_ret;exact ⟨zS,zB⟩
def fD.j0:Nat->Int->Int->Bool->Option (Int)
 | 0,_,_,_=>none
 | k+1,x0,x1,x15=>if x15=true then (some 0) else ((fC.f k x0 x1).bind fun amb=>((fC.f k x0 (wrap64 (3*x1))).bind fun t159=>((dI.f k amb t159 40).bind fun t160=>((lF.f t160 10).bind fun ar4=>(some ar4)))))
def fD.f (k:Nat) (a0 a1:Int):Option (Int):=(xg.f a0 a1).bind fun t156=>(if t156=true then ((tq.f a0).bind fun t157=>(fD.j0 k a0 a1 (decide (t157>=(wrap64 (3*a1)))))) else (fD.j0 k a0 a1 true))
theorem fD.jg:∀ k,(∀ y0 y1 y2,LeO (fD.j0 k y0 y1 y2) (fD.j0 (k+1) y0 y1 y2))
 | 0=>fun _ _ _ r h=>by simp [fD.j0] at h
 | k+1=>by
  have ih0:=fD.jg k
  ·intro y0 y1 y2;unfold fD.j0;repeat' (with_reducible first|exact ih0 _ _ _|exact fC.mono _ _ _|exact dI.mono _ _ _ _|exact zM|refine LeO.ite ?_ ?_|refine LeO.bind ?_ (fun _ => ?_))
theorem fD.mono:∀ a0 a1 k,LeO (fD.f k a0 a1) (fD.f (k+1) a0 a1):=by
 intro a0 a1 k;have ih0:=fD.jg k;unfold fD.f;repeat' (with_reducible first|exact ih0 _ _ _|exact fC.mono _ _ _|exact dI.mono _ _ _ _|exact zM|refine LeO.ite ?_ ?_|refine LeO.bind ?_ (fun _ => ?_))
theorem fD.calls (k:Nat) (a0 a1 r:Int) (w:World) (h:fD.f k a0 a1=some r) :
  Calls Tryz.prog 153 #[.int .i64 a0,.int .i64 a1] w fun e w'=>e = .returned (.int .i64 r)/\Below w.heap.size w w':=by
 have HB:=aj.mk (Below.refl w.heap.size w);have H:=h;clear h;unfold fD.f at H;have HC3:=aj.mk H;clear H;go_enter Tryz.func153,Tryz.ntmps153;go_upto_region 1 with (fail);go_cut [15] (fun v15 wc=>∃ (kq:Nat) (akJ:Bool),v15 = .bool akJ/\aj (fD.j0 kq a0 a1 akJ=some r)/\aj (kq<=k)/\aj (Below w.heap.size w wc))
 case first =>
  have H:=HC3.out;clear HC3;replace H:=zO H;obtain ⟨t156,A4,H⟩:=H;try dsimp only at H
  by_cases c5:t156=true
  ·subst c5;rw [if_pos rfl] at H;(try dsimp only at H);replace H:=zO H;obtain ⟨t157,A6,H⟩:=H;try dsimp only at H
   have H':=aj.mk H;clear H;go_wp2_with (first|((with_reducible refine ay (f:=174) rfl ?_);refine aH (some 7) rfl rfl Tryz.func174 (by kernel_rfl) rfl #[.int .i64 a0,.int .i64 a1] rfl zL ?_;(with_reducible refine (xg.calls a0 a1 true _ A4.out).mono ?_);rintro e w' ⟨rfl,⟨nd,rfl⟩⟩;refine ⟨_,rfl,?_⟩)|(go_at_call 175;(with_reducible refine (tq.calls a0 t157 _ A6.out).mono ?_);rintro e w7 ⟨rfl,hb⟩;replace HB:=aj.mk (ak zB hb);(try clear hb)));go_meet
   case rel=>exact ⟨_,(decide (t157>=(wrap64 (3*a1)))),zT,H',⟨by first|omega|exact Nat.le_refl _⟩,⟨zB⟩⟩
  ·replace c5:=Bool.eq_false_iff.mpr c5;subst c5;rw [if_neg (show ¬ (false=true) by decide)] at H;(try dsimp only at H);have H':=aj.mk H;clear H;go_wp2_with (first|((with_reducible refine ay (f:=174) rfl ?_);refine aH (some 7) rfl rfl Tryz.func174 (by kernel_rfl) rfl #[.int .i64 a0,.int .i64 a1] rfl zL ?_;(with_reducible refine (xg.calls a0 a1 false _ A4.out).mono ?_);rintro e w' ⟨rfl,⟨nd,rfl⟩⟩;refine ⟨_,rfl,?_⟩));go_meet
   case rel=>exact ⟨_,(true),zT,H',⟨by first|omega|exact Nat.le_refl _⟩,⟨zB⟩⟩
 case rest =>
  clear HC3;obtain ⟨kq,akJ,rfl,HA,HJ2,HB⟩:=hcut;cases kq with
  | zero=>exact absurd HA.out (by simp [fD.j0])
  | succ kj2 =>
   have H:=HA.out;clear HA;simp only [fD.j0] at H;by_cases c8:akJ=true
   ·subst c8;rw [if_pos rfl] at H;(try dsimp only at H);obtain rfl:=Option.some.inj H;go_wp2;go_ret;exact ⟨zS,zB⟩
   ·replace c8:=Bool.eq_false_iff.mpr c8;subst c8;rw [if_neg (show ¬ (false=true) by decide)] at H;(try dsimp only at H);replace H:=zO H;obtain ⟨amb,A9,H⟩:=H;try dsimp only at H
    replace H:=zO H;obtain ⟨t159,A10,H⟩:=H;try dsimp only at H
    replace H:=zO H;obtain ⟨t160,A11,H⟩:=H;try dsimp only at H
    replace H:=zO H;obtain ⟨ar4,A12,H⟩:=H;try dsimp only at H
    obtain rfl:=Option.some.inj H;go_wp2_with (first|((with_reducible refine ay (f:=177) rfl ?_);refine aH (some 18) rfl rfl Tryz.func177 (by kernel_rfl) rfl #[.int .i64 a0,.int .i64 a1] rfl zL ?_;(with_reducible refine (fC.calls kj2 a0 a1 amb _ A9.out).mono ?_);rintro e w13 ⟨rfl,hb⟩;refine ⟨_,rfl,?_⟩;replace HB:=aj.mk (ak zB hb);(try clear hb))|((with_reducible refine ay (f:=177) rfl ?_);refine aH (some 22) rfl rfl Tryz.func177 (by kernel_rfl) rfl #[.int .i64 a0,.int .i64 (wrap64 (3*a1))] rfl zL ?_;(with_reducible refine (fC.calls kj2 a0 (wrap64 (3*a1)) t159 _ A10.out).mono ?_);rintro e w14 ⟨rfl,hb⟩;refine ⟨_,rfl,?_⟩;replace HB:=aj.mk (ak zB hb);(try clear hb))|((with_reducible refine ay (f:=176) rfl ?_);refine aH (some 23) rfl rfl Tryz.func176 (by kernel_rfl) rfl #[.int .i64 amb,.int .i64 t159,.int .i64 40] rfl zL ?_;(with_reducible refine (dI.calls kj2 amb t159 40 t160 _ A11.out).mono ?_);rintro e w15 ⟨rfl,hb⟩;refine ⟨_,rfl,?_⟩;replace HB:=aj.mk (ak zB hb);(try clear hb))|((with_reducible refine ay (f:=100) rfl ?_);refine aH (some 24) rfl rfl Tryz.func100 (by kernel_rfl) rfl #[.int .i64 t160,.int .i64 10] rfl zL ?_;(with_reducible refine (lF.calls t160 10 ar4 _ A12.out).mono ?_);rintro e w' ⟨rfl,⟨nd,rfl⟩⟩;refine ⟨_,rfl,?_⟩));go_ret;exact ⟨zS,zB⟩
def oH.f (k:Nat) (a0 a1 a2 a3 a4:Int):Option (Int):=if a0=0 then ((bf.f k (wrap64 ((mn (wrap64 ((wrap64 (a3+1))*a1)) (wrap64 ((wrap64 (a4+1))*a2))) - (mx (wrap64 (a3*a1)) (wrap64 (a4*a2))))) 1073741824 a1).bind fun t162=>(some t162)) else (if a0=1 then ((fU.f k (wrap64 ((wrap64 ((wrap64 ((wrap64 (2*a2))*a4)) - (wrap64 ((wrap64 ((wrap64 (2*a3))+1))*a1))))+a2)) (wrap64 (2*(mx a1 a2)))).bind fun amc=>(some amc)) else ((fD.f k (wrap64 ((wrap64 ((wrap64 ((wrap64 (2*a2))*a4)) - (wrap64 ((wrap64 ((wrap64 (2*a3))+1))*a1))))+a2)) (wrap64 (2*(mx a1 a2)))).bind fun t164=>(some t164)))
theorem oH.mono:∀ a0 a1 a2 a3 a4 k,LeO (oH.f k a0 a1 a2 a3 a4) (oH.f (k+1) a0 a1 a2 a3 a4):=by
 intro a0 a1 a2 a3 a4 k;unfold oH.f;repeat' (with_reducible first|exact fU.mono _ _ _|exact fD.mono _ _ _|exact bf.mono _ _ _ _|exact zM|refine LeO.ite ?_ ?_|refine LeO.bind ?_ (fun _ => ?_))
theorem oH.calls (k:Nat) (a0 a1 a2 a3 a4 r:Int) (w:World) (h:oH.f k a0 a1 a2 a3 a4=some r) :
  Calls Tryz.prog 129 #[.int .i64 a0,.int .i64 a1,.int .i64 a2,.int .i64 a3,.int .i64 a4] w fun e w'=>e = .returned (.int .i64 r)/\Below w.heap.size w w':=by
 have HB:=aj.mk (Below.refl w.heap.size w);have H:=h;clear h;unfold oH.f at H;by_cases c6:a0=0
 ·rw [if_pos c6] at H;have iF:(a0 == 0)=true:=beq_iff_eq.mpr c6;have vP:(a0 != 0)=false:=bne_eq_false_iff_eq.mpr c6;clear c6;obtain ⟨ji7,yu⟩:∃ j_:Int,(mn (wrap64 ((wrap64 (a3+1))*a1)) (wrap64 ((wrap64 (a4+1))*a2)))=j_:=⟨_,rfl⟩;replace H:((bf.f k (wrap64 ((ji7) - (mx (wrap64 (a3*a1)) (wrap64 (a4*a2))))) 1073741824 a1).bind fun t162=>(some t162))=some r:=(by first|(rw [yu] at H;exact H)|(simp only [yu] at H ⊢;exact H));have ayj:(if (wrap64 ((wrap64 (a4+1))*a2)) < (wrap64 ((wrap64 (a3+1))*a1)) then (wrap64 ((wrap64 (a4+1))*a2)) else (wrap64 ((wrap64 (a3+1))*a1)))=ji7:=yu;obtain ⟨ji8,qW⟩:∃ j_:Int,(mx (wrap64 (a3*a1)) (wrap64 (a4*a2)))=j_:=⟨_,rfl⟩;replace H:((bf.f k (wrap64 ((ji7) - (ji8))) 1073741824 a1).bind fun t162=>(some t162))=some r:=(by first|(rw [qW] at H;exact H)|(simp only [qW] at H ⊢;exact H));have atv:(if (wrap64 (a3*a1)) < (wrap64 (a4*a2)) then (wrap64 (a4*a2)) else (wrap64 (a3*a1)))=ji8:=qW;replace H:=zO H;obtain ⟨t162,A9,H⟩:=H;try dsimp only at H
  obtain rfl:=Option.some.inj H;go_enter Tryz.func129,Tryz.ntmps129;go_wp2_with (first|((with_reducible refine ay (f:=130) rfl ?_);refine aH (some 35) rfl rfl Tryz.func130 (by kernel_rfl) rfl #[.int .i64 (wrap64 ((ji7) - (ji8))),.int .i64 1073741824,.int .i64 a1] rfl (by (try simp only [List.map_toArray,List.map_cons,List.map_nil]);first|done|(simp only [yu,qW];rfl)|rfl|(simp only [List.length_drop,List.length_take];rfl)) ?_;(with_reducible refine (bf.calls k (wrap64 ((ji7) - (ji8))) 1073741824 a1 t162 _ A9.out).mono ?_);rintro e w' ⟨rfl,⟨nd,rfl⟩⟩;refine ⟨_,rfl,?_⟩));go_ret;exact ⟨by first|rfl|(simp [bJ,bK] <;> rfl)|(simp only [<- yu,<- qW];first|rfl|(simp [bJ,bK] <;> rfl))|(simp [*,bJ,bK] <;> rfl),zB⟩
 ·rw [if_neg c6] at H;have iF:(a0 == 0)=false:=beq_eq_false_iff_ne.mpr c6;have vP:(a0 != 0)=true:=bne_iff_ne.mpr c6;obtain ⟨dJ,jT⟩:∃ j_:Int,(mx a1 a2)=j_:=⟨_,rfl⟩;replace H:(if a0=1 then ((fU.f k (wrap64 ((wrap64 ((wrap64 ((wrap64 (2*a2))*a4)) - (wrap64 ((wrap64 ((wrap64 (2*a3))+1))*a1))))+a2)) (wrap64 (2*(dJ)))).bind fun amc=>(some amc)) else ((fD.f k (wrap64 ((wrap64 ((wrap64 ((wrap64 (2*a2))*a4)) - (wrap64 ((wrap64 ((wrap64 (2*a3))+1))*a1))))+a2)) (wrap64 (2*(dJ)))).bind fun t164=>(some t164)))=some r:=(by first|(rw [jT] at H;exact H)|(simp only [jT] at H ⊢;exact H));have alp:(if a1 < a2 then a2 else a1)=dJ:=jT;by_cases c11:a0=1
  ·rw [if_pos c11] at H;have iV:(a0 == 1)=true:=beq_iff_eq.mpr c11;have xM:(a0 != 1)=false:=bne_eq_false_iff_eq.mpr c11;clear c11;replace H:=zO H;obtain ⟨amc,A12,H⟩:=H;try dsimp only at H
   obtain rfl:=Option.some.inj H;go_enter Tryz.func129,Tryz.ntmps129;go_wp2_with (first|((with_reducible refine ay (f:=108) rfl ?_);refine aH (some 56) rfl rfl Tryz.func108 (by kernel_rfl) rfl #[.int .i64 (wrap64 ((wrap64 ((wrap64 ((wrap64 (2*a2))*a4)) - (wrap64 ((wrap64 ((wrap64 (2*a3))+1))*a1))))+a2)),.int .i64 (wrap64 (2*(dJ)))] rfl (by (try simp only [List.map_toArray,List.map_cons,List.map_nil]);first|done|(simp only [jT];rfl)|(simp only [Int.tdiv_eq_ediv_of_nonneg hji10l];rfl)|rfl|(simp only [List.length_drop,List.length_take];rfl)) ?_;(with_reducible refine (fU.calls k (wrap64 ((wrap64 ((wrap64 ((wrap64 (2*a2))*a4)) - (wrap64 ((wrap64 ((wrap64 (2*a3))+1))*a1))))+a2)) (wrap64 (2*(dJ))) amc _ A12.out).mono ?_);rintro e w13 ⟨rfl,hb⟩;refine ⟨_,rfl,?_⟩;replace HB:=aj.mk (ak zB hb);(try clear hb)));go_ret;exact ⟨by first|rfl|(simp [bJ,bK] <;> rfl)|(simp only [<- jT];first|rfl|(simp [bJ,bK] <;> rfl))|(simp [*,bJ,bK] <;> rfl),zB⟩
  ·rw [if_neg c11] at H;have iV:(a0 == 1)=false:=beq_eq_false_iff_ne.mpr c11;have xM:(a0 != 1)=true:=bne_iff_ne.mpr c11;replace H:=zO H;obtain ⟨t164,A14,H⟩:=H;try dsimp only at H
   obtain rfl:=Option.some.inj H;go_enter Tryz.func129,Tryz.ntmps129;go_wp2_with (first|((with_reducible refine ay (f:=153) rfl ?_);refine aH (some 59) rfl rfl Tryz.func153 (by kernel_rfl) rfl #[.int .i64 (wrap64 ((wrap64 ((wrap64 ((wrap64 (2*a2))*a4)) - (wrap64 ((wrap64 ((wrap64 (2*a3))+1))*a1))))+a2)),.int .i64 (wrap64 (2*(dJ)))] rfl (by (try simp only [List.map_toArray,List.map_cons,List.map_nil]);first|done|(simp only [jT];rfl)|(simp only [Int.tdiv_eq_ediv_of_nonneg hji10l];rfl)|rfl|(simp only [List.length_drop,List.length_take];rfl)) ?_;(with_reducible refine (fD.calls k (wrap64 ((wrap64 ((wrap64 ((wrap64 (2*a2))*a4)) - (wrap64 ((wrap64 ((wrap64 (2*a3))+1))*a1))))+a2)) (wrap64 (2*(dJ))) t164 _ A14.out).mono ?_);rintro e w15 ⟨rfl,hb⟩;refine ⟨_,rfl,?_⟩;replace HB:=aj.mk (ak zB hb);(try clear hb)));go_ret;exact ⟨by first|rfl|(simp [bJ,bK] <;> rfl)|(simp only [<- jT];first|rfl|(simp [bJ,bK] <;> rfl))|(simp [*,bJ,bK] <;> rfl),zB⟩
def iI.l0:Nat->Int->Int->Int->Int->Int->List Int->Int->Int->Option (Int × List Int)
 | 0,_,_,_,_,_,_,_,_=>none
 | k+1,x0,x1,x2,x3,x8,x9,x20,x21=>if x21 < x20 then ((oH.f k x0 x1 x2 x3 (wrap64 (x8+x21))).bind fun t167=>(if x9.length < 17592186044416 then (iI.l0 k x0 x1 x2 x3 x8 (x9 ++ [t167]) x20 (wrap64 (x21+1))) else (none))) else (some (x8,x9))
def iI.f (k:Nat) (a0 a1 a2 a3:Int):Option (Int × List Int):=(lJ.f k a0 a1 a2 a3).bind fun atz=>(iI.l0 k a0 a1 a2 a3 atz.1 ([]:List Int) atz.2 0)
theorem iI.jg:∀ k,(∀ y0 y1 y2 y3 y4 y5 y6 y7,LeO (iI.l0 k y0 y1 y2 y3 y4 y5 y6 y7) (iI.l0 (k+1) y0 y1 y2 y3 y4 y5 y6 y7))
 | 0=>fun _ _ _ _ _ _ _ _ r h=>by simp [iI.l0] at h
 | k+1=>by
  have ih0:=iI.jg k
  ·intro y0 y1 y2 y3 y4 y5 y6 y7;unfold iI.l0;repeat' (with_reducible first|exact ih0 _ _ _ _ _ _ _ _|exact lJ.mono _ _ _ _ _|exact oH.mono _ _ _ _ _ _|exact zM|refine LeO.ite ?_ ?_|refine LeO.bind ?_ (fun _ => ?_))
theorem iI.mono:∀ a0 a1 a2 a3 k,LeO (iI.f k a0 a1 a2 a3) (iI.f (k+1) a0 a1 a2 a3):=by
 intro a0 a1 a2 a3 k;have ih0:=iI.jg k;unfold iI.f;repeat' (with_reducible first|exact ih0 _ _ _ _ _ _ _ _|exact lJ.mono _ _ _ _ _|exact oH.mono _ _ _ _ _ _|exact zM|refine LeO.ite ?_ ?_|refine LeO.bind ?_ (fun _ => ?_))
theorem iI.calls (k:Nat) (a0 a1 a2 a3 r1:Int) (r2:List Int) (w:World) (hG:GL w) (h:iI.f k a0 a1 a2 a3=some (r1,r2)) :
  Calls Tryz.prog 107 #[.int .i64 a0,.int .i64 a1,.int .i64 a2,.int .i64 a3] w fun e w'=>∃ v1_:Value,e = .returned (.tuple #[.int .i64 r1,v1_])/\Kd.R (Kd.int .i64) 2 w' w.heap.size (fun _=>True) v1_ r2/\Below w.heap.size w w':=by
 have HB:=aj.mk (Below.refl w.heap.size w);have H:=h;clear h;unfold iI.f at H;replace H:=zO H;obtain ⟨⟨amd,aoQ⟩,A5,H⟩:=H;try dsimp only at H
 have H':=aj.mk H;clear H;go_enter Tryz.func107,Tryz.ntmps107;go_wp2_with (first|((with_reducible refine ay (f:=128) rfl ?_);refine aH (some 17) rfl rfl Tryz.func128 (by kernel_rfl) rfl #[.int .i64 a0,.int .i64 a1,.int .i64 a2,.int .i64 a3] rfl zL ?_;(with_reducible refine (lJ.calls k a0 a1 a2 a3 amd aoQ _ (by exact GL.below hG (by repeat (first|(with_reducible first|exact HB.out|apply aT|apply aI|apply aZ)|exact HB.out|exact Below.refl _ _))) A5.out).mono ?_);rintro e w6 ⟨rfl,hb⟩;refine ⟨_,rfl,?_⟩;replace HB:=aj.mk (ak zB hb);(try clear hb)));go_loopg [9,21] k (fun kq v9 v21 w'=>∃ (uJ:List Int) (wY:Int),v21 = .int .i64 wY/\aj (iI.l0 kq a0 a1 a2 a3 amd uJ aoQ wY=some (r1,r2))/\aj (kq<=k)/\aj (Kd.R (Kd.int .i64) 2 w' w.heap.size (fun _=>True) v9 uJ)/\aj (Below w.heap.size w w'))
 case atStart=>exact ⟨(([]:List Int)),(0),zT,H',⟨Nat.le_refl _⟩,⟨by first|exact Kd.jY _ _ _ _ _|exact Kd.qB _ _ _ _ _|exact Kd.oL _ _ _ _ _|exact Kd.qC _ _ _ _ _|exact Kd.pW _ _ _ _ _⟩,⟨zB⟩⟩
 case round =>
  clear H';obtain ⟨uJ,wY,rfl,HA,HK1,aoR,HB⟩:=hrel;cases gk with
  | zero=>exact absurd HA.out (by simp [iI.l0])
  | succ k1 =>
   have H:=HA.out;clear HA;simp only [iI.l0] at H;by_cases c7:wY < aoQ
   ·rw [if_pos c7] at H;have jk:=decide_eq_true c7;clear c7;replace H:=zO H;obtain ⟨t167,A8,H⟩:=H;try dsimp only at H
    by_cases c9:uJ.length < 17592186044416
    ·rw [if_pos c9] at H;have azq:=aj.mk c9;clear c9;obtain ⟨y168,hy168⟩:∃ y_:List Int,y_=(uJ ++ [t167]):=⟨_,rfl⟩;replace H:(iI.l0 k1 a0 a1 a2 a3 amd y168 aoQ (wrap64 (wY+1)))=some (r1,r2):=(by first|(rw [hy168];with_reducible exact H)|(have H2_:=(Option.bind_some _ _).symm.trans H;rw [hy168];with_reducible exact H2_)|(have H2_:=(Option.bind_some _ _).symm.trans H;with_reducible exact H2_)|with_reducible exact H|(rw [hy168];exact H)|exact H);have ayk:=aj.mk hy168;clear hy168;have H':=aj.mk H;clear H;go_wp2_with (first|((with_reducible refine ay (f:=129) rfl ?_);refine aH (some 32) rfl rfl Tryz.func129 (by kernel_rfl) rfl #[.int .i64 a0,.int .i64 a1,.int .i64 a2,.int .i64 a3,.int .i64 (wrap64 (amd+wY))] rfl zL ?_;(with_reducible refine (oH.calls k1 a0 a1 a2 a3 (wrap64 (amd+wY)) t167 _ A8.out).mono ?_);rintro e w10 ⟨rfl,hb⟩;refine ⟨_,rfl,?_⟩;obtain ⟨aoR,HB⟩:=zA2 (Kd.jc (by (with_reducible repeat (first|apply Kd.aK|apply Kd.aQ|apply Kd.aW));exact aoR.out) hb) (ak zB hb);(try clear hb))|((with_reducible refine jQ (b := .append) (xs := #[.tmp 24,.tmp 33]) rfl ?_);at_builtin;refine Kd.kW (Kd.int .i64) (w0:=w) w.heap.size rfl (.tmp 24) (.tmp 33) 44 2 (.int .i64 0) 8 rfl Tryz.underlying44 wQ rfl (by decide) (by omega) u9 uJ t167 [.int .i64 t167] (fun _=>True) (fun _=>False) rfl rfl ?aP (fun _ hk=>hk.elim) ?aF ?aO ?aB ?aS ?aL ?_;(case aP=>exact rfl);(case aB=>exact zB);(case aF=>exact (fun _ _=>trivial));(case aO=>exact (by (with_reducible repeat (first|apply Kd.aK|apply Kd.aQ|apply Kd.aW));exact aoR.out));(case aS=>exact (bT zB));(case aL=>have:=azq.out;omega);intro aEE w11 ho hb hg hat;rw [<- ayk.out] at ho;obtain ⟨HB,ayl⟩:=zA2 hb ho;clear ho hb hg hat));go_roundg k1
     case measure=>have:=HK1.out;omega
     case rel=>exact ⟨(y168),(wrap64 (wY+1)),zT,H',⟨by have:=HK1.out;omega⟩,⟨by (with_reducible repeat (first|apply Kd.aK|apply Kd.aQ|apply Kd.aW));exact ayl.out⟩,⟨zB⟩⟩
    ·rw [if_neg c9] at H;exact absurd H (by simp)
   ·rw [if_neg c7] at H;have jk:=decide_eq_false c7;clear c7;simp only [Option.some.injEq,Prod.mk.injEq] at H;obtain ⟨rfl,rfl⟩:=H;go_wp2;go_ret2;exact ⟨_,zS,by (with_reducible repeat (first|apply Kd.aK|apply Kd.aQ|apply Kd.aW));exact aoR.out,zB⟩
def jF.j0:Nat->Int->Int->Bool->Option (Int)
 | 0,_,_,_=>none
 | k+1,x0,x1,x11=>if x11=true then (some 0) else (if x1=0 then (none) else (if (Int.tmod x0 x1)=0 then (some (Int.tmod x0 x1)) else (if ((decide ((Int.tmod x0 x1) < 0)) != (decide (x1 < 0)))=true then (some (wrap64 ((Int.tmod x0 x1)+x1))) else (some (Int.tmod x0 x1)))))
def jF.f (k:Nat) (a0 a1:Int):Option (Int):=if a1=0 then (jF.j0 k a0 a1 true) else (jF.j0 k a0 a1 (a1 == (-1)))
theorem jF.calls (k:Nat) (a0 a1 r:Int) (w:World) (h:jF.f k a0 a1=some r) :
  Calls Tryz.prog 103 #[.int .i64 a0,.int .i64 a1] w fun e w'=>e = .returned (.int .i64 r)/\dG w w':=by
 have H:=h;clear h;unfold jF.f at H;have HC3:=aj.mk H;clear H;go_enter Tryz.func103,Tryz.ntmps103;go_upto_region 1 with (fail);go_cut [11] (fun v11 wc=>∃ (kq:Nat) (akK:Bool),v11 = .bool akK/\aj (jF.j0 kq a0 a1 akK=some r)/\aj (kq<=k)/\dG w wc)
 case first =>
  have H:=HC3.out;clear HC3;by_cases c4:a1=0
  ·rw [if_pos c4] at H;have fG:(a1 == 0)=true:=beq_iff_eq.mpr c4;have aaJ:(a1 != 0)=false:=bne_eq_false_iff_eq.mpr c4;clear c4
   (first|rw [fG]|(simp only [cZ,dD];rw [fG])|skip)
   have H':=aj.mk H;clear H;go_wp2;go_meet
   case rel=>exact ⟨_,(true),zT,H',⟨by first|omega|exact Nat.le_refl _⟩,zW⟩
  ·rw [if_neg c4] at H;have fG:(a1 == 0)=false:=beq_eq_false_iff_ne.mpr c4;have aaJ:(a1 != 0)=true:=bne_iff_ne.mpr c4
   (first|rw [fG]|(simp only [cZ,dD];rw [fG])|skip)
   have H':=aj.mk H;clear H;go_wp2;go_meet
   case rel=>exact ⟨_,((a1 == (-1))),zT,H',⟨by first|omega|exact Nat.le_refl _⟩,zW⟩
 case rest =>
  clear HC3;obtain ⟨kq,akK,rfl,HA,HJ2,⟨mc2,rfl⟩⟩:=hcut;cases kq with
  | zero=>exact absurd HA.out (by simp [jF.j0])
  | succ kj2 =>
   have H:=HA.out;clear HA;simp only [jF.j0] at H;by_cases c5:akK=true
   ·subst c5;rw [if_pos rfl] at H;(try dsimp only at H);obtain rfl:=Option.some.inj H;go_wp2;go_ret;exact ⟨zT,zW⟩
   ·replace c5:=Bool.eq_false_iff.mpr c5;subst c5;rw [if_neg (show ¬ (false=true) by decide)] at H;(try dsimp only at H);by_cases c6:a1=0
    ·rw [if_pos c6] at H;exact absurd H (by simp)
    ·rw [if_neg c6] at H;have iF:(a1 == 0)=false:=beq_eq_false_iff_ne.mpr c6;have vP:(a1 != 0)=true:=bne_iff_ne.mpr c6;by_cases c7:(Int.tmod a0 a1)=0
     ·rw [if_pos c7] at H;have jk:((Int.tmod a0 a1) == 0)=true:=beq_iff_eq.mpr c7;have aaB:((Int.tmod a0 a1) != 0)=false:=bne_eq_false_iff_eq.mpr c7;clear c7;obtain rfl:=Option.some.inj H;go_wp2;go_ret;exact ⟨zT,zW⟩
     ·rw [if_neg c7] at H;have jk:((Int.tmod a0 a1) == 0)=false:=beq_eq_false_iff_ne.mpr c7;have aaB:((Int.tmod a0 a1) != 0)=true:=bne_iff_ne.mpr c7;by_cases c8:((decide ((Int.tmod a0 a1) < 0)) != (decide (a1 < 0)))=true
      ·rw [if_pos c8] at H;have vS:((decide ((Int.tmod a0 a1) < 0)) != (decide (a1 < 0)))=true:=c8
       (try (have ab4:decide ((decide ((Int.tmod a0 a1) < 0))=(decide (a1 < 0)))=false:=by simpa using c8))
       (try (have azr:((decide ((Int.tmod a0 a1) < 0)) == (decide (a1 < 0)))=false:=by simpa using c8))
       (try (have aEF:¬ ((decide ((Int.tmod a0 a1) < 0))=(decide (a1 < 0))):=by simpa using c8))
       clear c8;obtain rfl:=Option.some.inj H;go_wp2;go_ret;exact ⟨zT,zW⟩
      ·rw [if_neg c8] at H;have vS:((decide ((Int.tmod a0 a1) < 0)) != (decide (a1 < 0)))=false:=by simpa using c8
       (try (have ab4:decide ((decide ((Int.tmod a0 a1) < 0))=(decide (a1 < 0)))=true:=by simpa using c8))
       (try (have azr:((decide ((Int.tmod a0 a1) < 0)) == (decide (a1 < 0)))=true:=by simpa using c8))
       clear c8;obtain rfl:=Option.some.inj H;go_wp2;go_ret;exact ⟨zT,zW⟩
def lH.j0:Nat->Int->Int->Int->Bool->Option (Int)
 | 0,_,_,_,_=>none
 | k+1,x0,x1,x5,x9=>if x9=true then (some 9223372036854775807) else (if x1 < 0 then (if x5 > x0 then (some (-9223372036854775808)) else (some x5)) else (some x5))
def lH.f (k:Nat) (a0 a1:Int):Option (Int):=if a1 > 0 then (lH.j0 k a0 a1 (wrap64 (a0+a1)) (decide ((wrap64 (a0+a1)) < a0))) else (lH.j0 k a0 a1 (wrap64 (a0+a1)) false)
theorem lH.calls (k:Nat) (a0 a1 r:Int) (w:World) (h:lH.f k a0 a1=some r) :
  Calls Tryz.prog 162 #[.int .i64 a0,.int .i64 a1] w fun e w'=>e = .returned (.int .i64 r)/\dG w w':=by
 have H:=h;clear h;unfold lH.f at H;have HC3:=aj.mk H;clear H;go_enter Tryz.func162,Tryz.ntmps162;go_upto_region 2 with (fail);go_cut [9] (fun v9 wc=>∃ (kq:Nat) (abz:Bool),v9 = .bool abz/\aj (lH.j0 kq a0 a1 (wrap64 (a0+a1)) abz=some r)/\aj (kq<=k)/\dG w wc)
 case first =>
  have H:=HC3.out;clear HC3;by_cases c4:a1 > 0
  ·rw [if_pos c4] at H;have fG:=decide_eq_true c4;clear c4
   (first|rw [fG]|(simp only [cZ,dD];rw [fG])|skip)
   have H':=aj.mk H;clear H;go_wp2;go_meet
   case rel=>exact ⟨_,(decide ((wrap64 (a0+a1)) < a0)),zT,H',⟨by first|omega|exact Nat.le_refl _⟩,zW⟩
  ·rw [if_neg c4] at H;have fG:=decide_eq_false c4;clear c4
   (first|rw [fG]|(simp only [cZ,dD];rw [fG])|skip)
   have H':=aj.mk H;clear H;go_wp2;go_meet
   case rel=>exact ⟨_,(false),zT,H',⟨by first|omega|exact Nat.le_refl _⟩,zW⟩
 case rest =>
  clear HC3;obtain ⟨kq,abz,rfl,HA,HJ2,⟨mc2,rfl⟩⟩:=hcut;cases kq with
  | zero=>exact absurd HA.out (by simp [lH.j0])
  | succ kj2 =>
   have H:=HA.out;clear HA;simp only [lH.j0] at H;by_cases c5:abz=true
   ·subst c5;rw [if_pos rfl] at H;(try dsimp only at H);obtain rfl:=Option.some.inj H;go_wp2;go_ret;exact ⟨zT,zW⟩
   ·replace c5:=Bool.eq_false_iff.mpr c5;subst c5;rw [if_neg (show ¬ (false=true) by decide)] at H;(try dsimp only at H);by_cases c6:a1 < 0
    ·rw [if_pos c6] at H;have iF:=decide_eq_true c6;clear c6;by_cases c7:(wrap64 (a0+a1)) > a0
     ·rw [if_pos c7] at H;have jk:=decide_eq_true c7;clear c7;obtain rfl:=Option.some.inj H;go_wp2;go_ret;exact ⟨zT,zW⟩
     ·rw [if_neg c7] at H;have jk:=decide_eq_false c7;clear c7;obtain rfl:=Option.some.inj H;go_wp2;go_ret;exact ⟨zT,zW⟩
    ·rw [if_neg c6] at H;have iF:=decide_eq_false c6;clear c6;obtain rfl:=Option.some.inj H;go_wp2;go_ret;exact ⟨zT,zW⟩
def oq.l0:Nat->Int->List Int->Int->Int->Option (Int)
 | 0,_,_,_,_=>none
 | k+1,x3,x6,x7,x8=>if x8 < x7 then (if 0<=x8 then (if x8 < (x6.length:Int) then ((lH.f k x3 (rd x6 x8)).bind fun aoS=>(oq.l0 k aoS x6 x7 (wrap64 (x8+1)))) else (none)) else (none)) else (some x3)
def oq.f (k:Nat) (l0:List Int):Option (Int):=oq.l0 k 0 l0 (l0.length:Int) 0
theorem oq.calls (k:Nat) (A0:Option Addr) (c0:Nat) (l0:List Int) (r:Int) (w:World) (hr0:Kd.C (Kd.int .i64) w A0 l0.length l0) (hc0:l0.length<=c0) (h:oq.f k l0=some r) :
  Calls Tryz.prog 132 #[.slice A0 l0.length c0] w fun e w'=>e = .returned (.int .i64 r)/\dG w w':=by
 have HR0:=aj.mk hr0;have HC0:=aj.mk hc0;clear hr0 hc0;have H:=h;clear h;unfold oq.f at H;have H':=aj.mk H;clear H;go_enter Tryz.func132,Tryz.ntmps132;go_wp2;go_loopg [3,8] k (fun kq v3 v8 w'=>∃ (oU:Int) (iE:Int),v3 = .int .i64 oU/\v8 = .int .i64 iE/\aj (oq.l0 kq oU l0 (l0.length:Int) iE=some r)/\aj (kq<=k)/\dG w w')
 case atStart=>exact ⟨(0),(0),zT,zT,H',⟨Nat.le_refl _⟩,zW⟩
 case round =>
  clear H';obtain ⟨oU,iE,rfl,rfl,HA,HK1,⟨m1,rfl⟩⟩:=hrel;cases gk with
  | zero=>exact absurd HA.out (by simp [oq.l0])
  | succ k1 =>
   have H:=HA.out;clear HA;simp only [oq.l0] at H;by_cases c2:iE < (l0.length:Int)
   ·rw [if_pos c2] at H;have nK:=decide_eq_true c2;clear c2;by_cases c3:0<=iE
    ·rw [if_pos c3] at H;have gI:=decide_eq_true c3;clear c3;by_cases c4:iE < (l0.length:Int)
     ·rw [if_pos c4] at H;have fG:=decide_eq_true c4;clear c4;replace H:=zO H;obtain ⟨aoS,A5,H⟩:=H;try dsimp only at H
      have H':=aj.mk H;clear H;have ar5:0<=(iE:Int):=of_decide_eq_true (by first|(with_reducible assumption)|assumption);have ar6:iE < (l0.length:Int):=of_decide_eq_true (by first|(with_reducible assumption)|assumption);obtain ⟨aDU,azs,aA1⟩:=Kd.iZ HR0.out iE ar5 ar6;cases azs;replace ar5:=eq_true ar5;replace ar6:=eq_true ar6;go_wp2_with (first|((with_reducible refine ay (f:=162) rfl ?_);refine aH (some 14) rfl rfl Tryz.func162 (by kernel_rfl) rfl #[.int .i64 oU,.int .i64 (rd l0 iE)] rfl zL ?_;(with_reducible refine (lH.calls k1 oU (rd l0 iE) aoS _ A5.out).mono ?_);rintro e w' ⟨rfl,⟨nd,rfl⟩⟩;refine ⟨_,rfl,?_⟩));go_roundg k1
      case measure=>have:=HK1.out;omega
      case rel=>exact ⟨(aoS),(wrap64 (iE+1)),zT,zT,H',⟨by have:=HK1.out;omega⟩,zW⟩
     ·rw [if_neg c4] at H;exact absurd H (by simp)
    ·rw [if_neg c3] at H;exact absurd H (by simp)
   ·rw [if_neg c2] at H;have nK:=decide_eq_false c2;clear c2;obtain rfl:=Option.some.inj H;go_wp2;go_ret;exact ⟨zT,zW⟩
end Go.Proofs.YtpondkggmcmpfaaGreatDoor.QA
