/- Joined by wip/tools/bundle.py out of: QAx6 QAx7 QAx8 QAx9 QAx10 QAx11. -/
import Derived.Test.YtpondkggmcmpfaaGreatDoorBDirectApplies1
set_option maxHeartbeats 8000000
set_option maxRecDepth 100000
namespace Go.Proofs.YtpondkggmcmpfaaGreatDoor.QA
open Go.Proofs.YtpondkggmcmpfaaGreatDoor.T
open Go.RowKit Go.Proofs.YtpondkggmcmpfaaGreatDoorW.PrintWords Go.Proofs.YtpondkggmcmpfaaGreatDoorW.PrintLast Go.Proofs.YtpondkggmcmpfaaGreatDoorW.PrintMore
attribute [local go_sem] dV dN dO fA fB
set_option linter.unusedVariables false
set_option linter.unusedSimpArgs false
mutual
def aY.j2:Nat->Int->Int->Int->Int->Int->Int->Int->Int->Option (Int × Int)
 | 0,_,_,_,_,_,_,_,_=>none
 | k+1,x2,x8,x9,x10,x11,x13,x14,x15=>if x9=0 then (none) else (aY.l1 k x2 x8 x9 x10 x14 x15 (IntKind.u64.wrap ((IntKind.u64.wrap ((IntKind.u64.wrap ((IntKind.u64.wrap (x11*4294967296))+x13)) - (IntKind.u64.wrap (x15*x2)))) - (IntKind.u64.wrap ((IntKind.u64.wrap (Int.tdiv (IntKind.u64.wrap ((IntKind.u64.wrap ((IntKind.u64.wrap (x11*4294967296))+x13)) - (IntKind.u64.wrap (x15*x2)))) x9))*x9)))) (IntKind.u64.wrap ((IntKind.u64.wrap ((IntKind.u64.wrap (x11*4294967296))+x13)) - (IntKind.u64.wrap (x15*x2)))) (IntKind.u64.wrap (Int.tdiv (IntKind.u64.wrap ((IntKind.u64.wrap ((IntKind.u64.wrap (x11*4294967296))+x13)) - (IntKind.u64.wrap (x15*x2)))) x9)))
def aY.l1:Nat->Int->Int->Int->Int->Int->Int->Int->Int->Int->Option (Int × Int)
 | 0,_,_,_,_,_,_,_,_,_=>none
 | k+1,x2,x8,x9,x10,x14,x15,x16,x17,x18=>if x18>=4294967296 then (aY.j4 k x2 x8 x9 x10 x14 x15 x16 x17 x18 true) else (aY.j4 k x2 x8 x9 x10 x14 x15 x16 x17 x18 (decide ((IntKind.u64.wrap (x18*x10)) > (IntKind.u64.wrap ((IntKind.u64.wrap (4294967296*x16))+x14)))))
def aY.j4:Nat->Int->Int->Int->Int->Int->Int->Int->Int->Int->Bool->Option (Int × Int)
 | 0,_,_,_,_,_,_,_,_,_,_=>none
 | k+1,x2,x8,x9,x10,x14,x15,x16,x17,x18,x113=>if x113=true then (if (IntKind.u64.wrap (x16+x9))>=4294967296 then (if 0<=x8 then (some (IntKind.u64.wrap ((IntKind.u64.wrap (x15*4294967296))+(IntKind.u64.wrap (x18 - 1))),shr .u64 (IntKind.u64.wrap ((IntKind.u64.wrap ((IntKind.u64.wrap (x17*4294967296))+x14)) - (IntKind.u64.wrap ((IntKind.u64.wrap (x18 - 1))*x2)))) x8)) else (none)) else (aY.l1 k x2 x8 x9 x10 x14 x15 (IntKind.u64.wrap (x16+x9)) x17 (IntKind.u64.wrap (x18 - 1)))) else (if 0<=x8 then (some (IntKind.u64.wrap ((IntKind.u64.wrap (x15*4294967296))+x18),shr .u64 (IntKind.u64.wrap ((IntKind.u64.wrap ((IntKind.u64.wrap (x17*4294967296))+x14)) - (IntKind.u64.wrap (x18*x2)))) x8)) else (none))
def aY.l0:Nat->Int->Int->Int->Int->Int->Int->Int->Int->Int->Option (Int × Int)
 | 0,_,_,_,_,_,_,_,_,_=>none
 | k+1,x2,x8,x9,x10,x11,x13,x14,x15,x16=>if x15>=4294967296 then (aY.j1 k x2 x8 x9 x10 x11 x13 x14 x15 x16 true) else (aY.j1 k x2 x8 x9 x10 x11 x13 x14 x15 x16 (decide ((IntKind.u64.wrap (x15*x10)) > (IntKind.u64.wrap ((IntKind.u64.wrap (4294967296*x16))+x13)))))
def aY.j1:Nat->Int->Int->Int->Int->Int->Int->Int->Int->Int->Bool->Option (Int × Int)
 | 0,_,_,_,_,_,_,_,_,_,_=>none
 | k+1,x2,x8,x9,x10,x11,x13,x14,x15,x16,x78=>if x78=true then (if (IntKind.u64.wrap (x16+x9))>=4294967296 then (aY.j2 k x2 x8 x9 x10 x11 x13 x14 (IntKind.u64.wrap (x15 - 1))) else (aY.l0 k x2 x8 x9 x10 x11 x13 x14 (IntKind.u64.wrap (x15 - 1)) (IntKind.u64.wrap (x16+x9)))) else (aY.j2 k x2 x8 x9 x10 x11 x13 x14 x15)
end
def aY.f (k:Nat) (a0 a1 a2:Int):Option (Int × Int):=if a2=0 then (none) else (if a2<=a0 then (none) else (if a0=0 then (some (IntKind.u64.wrap (Int.tdiv a1 a2),Int.tmod a1 a2)) else ((bits_LeadingZeros64.f a2).bind fun sH=>(if 0<=(IntKind.u64.wrap (sH)) then (if 0<=(IntKind.u64.wrap (64 - (IntKind.u64.wrap (sH)))) then (if ((shl .u64 a2 (IntKind.u64.wrap (sH))) / 4294967296)=0 then (none) else (aY.l0 k (shl .u64 a2 (IntKind.u64.wrap (sH))) (IntKind.u64.wrap (sH)) ((shl .u64 a2 (IntKind.u64.wrap (sH))) / 4294967296) (Go.bits .and .u64 (shl .u64 a2 (IntKind.u64.wrap (sH))) 4294967295) (Go.bits .or .u64 (shl .u64 a0 (IntKind.u64.wrap (sH))) (shr .u64 a1 (IntKind.u64.wrap (64 - (IntKind.u64.wrap (sH)))))) ((shl .u64 a1 (IntKind.u64.wrap (sH))) / 4294967296) (Go.bits .and .u64 (shl .u64 a1 (IntKind.u64.wrap (sH))) 4294967295) (IntKind.u64.wrap (Int.tdiv (Go.bits .or .u64 (shl .u64 a0 (IntKind.u64.wrap (sH))) (shr .u64 a1 (IntKind.u64.wrap (64 - (IntKind.u64.wrap (sH)))))) ((shl .u64 a2 (IntKind.u64.wrap (sH))) / 4294967296))) (IntKind.u64.wrap ((Go.bits .or .u64 (shl .u64 a0 (IntKind.u64.wrap (sH))) (shr .u64 a1 (IntKind.u64.wrap (64 - (IntKind.u64.wrap (sH)))))) - (IntKind.u64.wrap ((IntKind.u64.wrap (Int.tdiv (Go.bits .or .u64 (shl .u64 a0 (IntKind.u64.wrap (sH))) (shr .u64 a1 (IntKind.u64.wrap (64 - (IntKind.u64.wrap (sH)))))) ((shl .u64 a2 (IntKind.u64.wrap (sH))) / 4294967296)))*((shl .u64 a2 (IntKind.u64.wrap (sH))) / 4294967296))))))) else (none)) else (none)))))
theorem aY.jH:∀ k,(∀ y0 y1 y2 y3 y4 y5 y6 y7,LeO (aY.j2 k y0 y1 y2 y3 y4 y5 y6 y7) (aY.j2 (k+1) y0 y1 y2 y3 y4 y5 y6 y7))/\(∀ y0 y1 y2 y3 y4 y5 y6 y7 y8,LeO (aY.l1 k y0 y1 y2 y3 y4 y5 y6 y7 y8) (aY.l1 (k+1) y0 y1 y2 y3 y4 y5 y6 y7 y8))/\(∀ y0 y1 y2 y3 y4 y5 y6 y7 y8 y9,LeO (aY.j4 k y0 y1 y2 y3 y4 y5 y6 y7 y8 y9) (aY.j4 (k+1) y0 y1 y2 y3 y4 y5 y6 y7 y8 y9))/\(∀ y0 y1 y2 y3 y4 y5 y6 y7 y8,LeO (aY.l0 k y0 y1 y2 y3 y4 y5 y6 y7 y8) (aY.l0 (k+1) y0 y1 y2 y3 y4 y5 y6 y7 y8))/\(∀ y0 y1 y2 y3 y4 y5 y6 y7 y8 y9,LeO (aY.j1 k y0 y1 y2 y3 y4 y5 y6 y7 y8 y9) (aY.j1 (k+1) y0 y1 y2 y3 y4 y5 y6 y7 y8 y9))
 | 0=>⟨fun _ _ _ _ _ _ _ _ r h=>by simp [aY.j2] at h,fun _ _ _ _ _ _ _ _ _ r h=>by simp [aY.l1] at h,fun _ _ _ _ _ _ _ _ _ _ r h=>by simp [aY.j4] at h,fun _ _ _ _ _ _ _ _ _ r h=>by simp [aY.l0] at h,fun _ _ _ _ _ _ _ _ _ _ r h=>by simp [aY.j1] at h⟩
 | k+1=>by
  obtain ⟨ih0,ih1,ih2,ih3,ih4⟩:=aY.jH k;refine ⟨?_,?_,?_,?_,?_⟩
  ·intro y0 y1 y2 y3 y4 y5 y6 y7;unfold aY.j2;repeat' (with_reducible first|exact ih0 _ _ _ _ _ _ _ _|exact ih1 _ _ _ _ _ _ _ _ _|exact ih2 _ _ _ _ _ _ _ _ _ _|exact ih3 _ _ _ _ _ _ _ _ _|exact ih4 _ _ _ _ _ _ _ _ _ _|exact zM|refine LeO.ite ?_ ?_|refine LeO.bind ?_ (fun _ => ?_))
  ·intro y0 y1 y2 y3 y4 y5 y6 y7 y8;unfold aY.l1;repeat' (with_reducible first|exact ih0 _ _ _ _ _ _ _ _|exact ih1 _ _ _ _ _ _ _ _ _|exact ih2 _ _ _ _ _ _ _ _ _ _|exact ih3 _ _ _ _ _ _ _ _ _|exact ih4 _ _ _ _ _ _ _ _ _ _|exact zM|refine LeO.ite ?_ ?_|refine LeO.bind ?_ (fun _ => ?_))
  ·intro y0 y1 y2 y3 y4 y5 y6 y7 y8 y9;unfold aY.j4;repeat' (with_reducible first|exact ih0 _ _ _ _ _ _ _ _|exact ih1 _ _ _ _ _ _ _ _ _|exact ih2 _ _ _ _ _ _ _ _ _ _|exact ih3 _ _ _ _ _ _ _ _ _|exact ih4 _ _ _ _ _ _ _ _ _ _|exact zM|refine LeO.ite ?_ ?_|refine LeO.bind ?_ (fun _ => ?_))
  ·intro y0 y1 y2 y3 y4 y5 y6 y7 y8;unfold aY.l0;repeat' (with_reducible first|exact ih0 _ _ _ _ _ _ _ _|exact ih1 _ _ _ _ _ _ _ _ _|exact ih2 _ _ _ _ _ _ _ _ _ _|exact ih3 _ _ _ _ _ _ _ _ _|exact ih4 _ _ _ _ _ _ _ _ _ _|exact zM|refine LeO.ite ?_ ?_|refine LeO.bind ?_ (fun _ => ?_))
  ·intro y0 y1 y2 y3 y4 y5 y6 y7 y8 y9;unfold aY.j1;repeat' (with_reducible first|exact ih0 _ _ _ _ _ _ _ _|exact ih1 _ _ _ _ _ _ _ _ _|exact ih2 _ _ _ _ _ _ _ _ _ _|exact ih3 _ _ _ _ _ _ _ _ _|exact ih4 _ _ _ _ _ _ _ _ _ _|exact zM|refine LeO.ite ?_ ?_|refine LeO.bind ?_ (fun _ => ?_))
theorem aY.mono:∀ a0 a1 a2 k,LeO (aY.f k a0 a1 a2) (aY.f (k+1) a0 a1 a2):=by
 intro a0 a1 a2 k;obtain ⟨ih0,ih1,ih2,ih3,ih4⟩:=aY.jH k;unfold aY.f;repeat' (with_reducible first|exact ih0 _ _ _ _ _ _ _ _|exact ih1 _ _ _ _ _ _ _ _ _|exact ih2 _ _ _ _ _ _ _ _ _ _|exact ih3 _ _ _ _ _ _ _ _ _|exact ih4 _ _ _ _ _ _ _ _ _ _|exact zM|refine LeO.ite ?_ ?_|refine LeO.bind ?_ (fun _ => ?_))
theorem aY.calls (k:Nat) (a0 a1 a2 r1 r2:Int) (w:World) (h:aY.f k a0 a1 a2=some (r1,r2)) :
  Calls Tryz.prog 157 #[.int .u64 a0,.int .u64 a1,.int .u64 a2] w fun e w'=>e = .returned (.tuple #[.int .u64 r1,.int .u64 r2])/\dA w w':=by
 have H:=h;clear h;unfold aY.f at H;by_cases c4:a2=0
 ·rw [if_pos c4] at H;exact absurd H (by simp)
 ·rw [if_neg c4] at H;have fH:(a2 == 0)=false:=beq_eq_false_iff_ne.mpr c4;have aaS:(a2 != 0)=true:=bne_iff_ne.mpr c4;by_cases c5:a2<=a0
  ·rw [if_pos c5] at H;exact absurd H (by simp)
  ·rw [if_neg c5] at H;have gJ:=decide_eq_false c5;clear c5;by_cases c6:a0=0
   ·rw [if_pos c6] at H;have gI:(a0 == 0)=true:=beq_iff_eq.mpr c6;have vU:(a0 != 0)=false:=bne_eq_false_iff_eq.mpr c6;clear c6;simp only [Option.some.injEq,Prod.mk.injEq] at H;obtain ⟨rfl,rfl⟩:=H;go_enter Tryz.func157,Tryz.ntmps157;go_wp2;repeat (go_quiet (fail);try go_wp2)
    go_ret2;exact ⟨zT,zW⟩
   ·rw [if_neg c6] at H;have gI:(a0 == 0)=false:=beq_eq_false_iff_ne.mpr c6;have vU:(a0 != 0)=true:=bne_iff_ne.mpr c6;replace H:=zO H;obtain ⟨sH,A7,H⟩:=H;try dsimp only at H
    obtain ⟨ji8,sJ⟩:∃ j_:Int,(IntKind.u64.wrap (sH))=j_:=⟨_,rfl⟩;replace H:(if 0<=(ji8) then (if 0<=(IntKind.u64.wrap (64 - (ji8))) then (if ((shl .u64 a2 (ji8)) / 4294967296)=0 then (none) else (aY.l0 k (shl .u64 a2 (ji8)) ji8 ((shl .u64 a2 (ji8)) / 4294967296) (Go.bits .and .u64 (shl .u64 a2 (ji8)) 4294967295) (Go.bits .or .u64 (shl .u64 a0 (ji8)) (shr .u64 a1 (IntKind.u64.wrap (64 - (ji8))))) ((shl .u64 a1 (ji8)) / 4294967296) (Go.bits .and .u64 (shl .u64 a1 (ji8)) 4294967295) (IntKind.u64.wrap (Int.tdiv (Go.bits .or .u64 (shl .u64 a0 (ji8)) (shr .u64 a1 (IntKind.u64.wrap (64 - (ji8))))) ((shl .u64 a2 (ji8)) / 4294967296))) (IntKind.u64.wrap ((Go.bits .or .u64 (shl .u64 a0 (ji8)) (shr .u64 a1 (IntKind.u64.wrap (64 - (ji8))))) - (IntKind.u64.wrap ((IntKind.u64.wrap (Int.tdiv (Go.bits .or .u64 (shl .u64 a0 (ji8)) (shr .u64 a1 (IntKind.u64.wrap (64 - (ji8))))) ((shl .u64 a2 (ji8)) / 4294967296)))*((shl .u64 a2 (ji8)) / 4294967296))))))) else (none)) else (none))=some (r1,r2):=by first|(rw [sJ] at H;exact H)|(simp only [sJ] at H ⊢;exact H)
    (try rw [sJ] at A7)
    by_cases c9:0<=(ji8)
    ·rw [if_pos c9] at H;have o8:=eq_true c9;have adG:=decide_eq_true c9;clear c9;obtain ⟨dP,kT⟩:∃ j_:Int,(shl .u64 a2 (ji8))=j_:=⟨_,rfl⟩;replace H:(if 0<=(IntKind.u64.wrap (64 - (ji8))) then (if ((dP) / 4294967296)=0 then (none) else (aY.l0 k dP ji8 ((dP) / 4294967296) (Go.bits .and .u64 (dP) 4294967295) (Go.bits .or .u64 (shl .u64 a0 (ji8)) (shr .u64 a1 (IntKind.u64.wrap (64 - (ji8))))) ((shl .u64 a1 (ji8)) / 4294967296) (Go.bits .and .u64 (shl .u64 a1 (ji8)) 4294967295) (IntKind.u64.wrap (Int.tdiv (Go.bits .or .u64 (shl .u64 a0 (ji8)) (shr .u64 a1 (IntKind.u64.wrap (64 - (ji8))))) ((dP) / 4294967296))) (IntKind.u64.wrap ((Go.bits .or .u64 (shl .u64 a0 (ji8)) (shr .u64 a1 (IntKind.u64.wrap (64 - (ji8))))) - (IntKind.u64.wrap ((IntKind.u64.wrap (Int.tdiv (Go.bits .or .u64 (shl .u64 a0 (ji8)) (shr .u64 a1 (IntKind.u64.wrap (64 - (ji8))))) ((dP) / 4294967296)))*((dP) / 4294967296))))))) else (none))=some (r1,r2):=by first|(rw [kT] at H;exact H)|(simp only [kT] at H ⊢;exact H)
     (try rw [kT] at A7)
     have aoo:(IntKind.u64.wrap (a2*2 ^ min (ji8).toNat 64))=dP:=kT;have atf:(ji8)<=64->(IntKind.u64.wrap (a2*2 ^ (ji8).toNat))=dP:=aaZ kT;have jy:=eq_true (of_decide_eq_true (by first|(with_reducible assumption)|assumption):0<=(ji8));obtain ⟨jZ,qQ⟩:∃ j_:Int,(shl .u64 a0 (ji8))=j_:=⟨_,rfl⟩;replace H:(if 0<=(IntKind.u64.wrap (64 - (ji8))) then (if ((dP) / 4294967296)=0 then (none) else (aY.l0 k dP ji8 ((dP) / 4294967296) (Go.bits .and .u64 (dP) 4294967295) (Go.bits .or .u64 (jZ) (shr .u64 a1 (IntKind.u64.wrap (64 - (ji8))))) ((shl .u64 a1 (ji8)) / 4294967296) (Go.bits .and .u64 (shl .u64 a1 (ji8)) 4294967295) (IntKind.u64.wrap (Int.tdiv (Go.bits .or .u64 (jZ) (shr .u64 a1 (IntKind.u64.wrap (64 - (ji8))))) ((dP) / 4294967296))) (IntKind.u64.wrap ((Go.bits .or .u64 (jZ) (shr .u64 a1 (IntKind.u64.wrap (64 - (ji8))))) - (IntKind.u64.wrap ((IntKind.u64.wrap (Int.tdiv (Go.bits .or .u64 (jZ) (shr .u64 a1 (IntKind.u64.wrap (64 - (ji8))))) ((dP) / 4294967296)))*((dP) / 4294967296))))))) else (none))=some (r1,r2):=by first|(rw [qQ] at H;exact H)|(simp only [qQ] at H ⊢;exact H)
     (try rw [qQ] at A7)
     have azG:(IntKind.u64.wrap (a0*2 ^ min (ji8).toNat 64))=jZ:=qQ;have aFQ:(ji8)<=64->(IntKind.u64.wrap (a0*2 ^ (ji8).toNat))=jZ:=aaZ qQ;obtain ⟨aeU,akB⟩:∃ j_:Int,(IntKind.u64.wrap (64 - (ji8)))=j_:=⟨_,rfl⟩;replace H:(if 0<=(aeU) then (if ((dP) / 4294967296)=0 then (none) else (aY.l0 k dP ji8 ((dP) / 4294967296) (Go.bits .and .u64 (dP) 4294967295) (Go.bits .or .u64 (jZ) (shr .u64 a1 (aeU))) ((shl .u64 a1 (ji8)) / 4294967296) (Go.bits .and .u64 (shl .u64 a1 (ji8)) 4294967295) (IntKind.u64.wrap (Int.tdiv (Go.bits .or .u64 (jZ) (shr .u64 a1 (aeU))) ((dP) / 4294967296))) (IntKind.u64.wrap ((Go.bits .or .u64 (jZ) (shr .u64 a1 (aeU))) - (IntKind.u64.wrap ((IntKind.u64.wrap (Int.tdiv (Go.bits .or .u64 (jZ) (shr .u64 a1 (aeU))) ((dP) / 4294967296)))*((dP) / 4294967296))))))) else (none))=some (r1,r2):=by first|(rw [akB] at H;exact H)|(simp only [akB] at H ⊢;exact H)
     (try rw [akB] at A7)
     by_cases c14:0<=(aeU)
     ·rw [if_pos c14] at H;have acu:=eq_true c14;have anp:=decide_eq_true c14;clear c14;obtain ⟨rE,abN⟩:∃ j_:Int,(shr .u64 a1 (aeU))=j_:=⟨_,rfl⟩;replace H:(if ((dP) / 4294967296)=0 then (none) else (aY.l0 k dP ji8 ((dP) / 4294967296) (Go.bits .and .u64 (dP) 4294967295) (Go.bits .or .u64 (jZ) (rE)) ((shl .u64 a1 (ji8)) / 4294967296) (Go.bits .and .u64 (shl .u64 a1 (ji8)) 4294967295) (IntKind.u64.wrap (Int.tdiv (Go.bits .or .u64 (jZ) (rE)) ((dP) / 4294967296))) (IntKind.u64.wrap ((Go.bits .or .u64 (jZ) (rE)) - (IntKind.u64.wrap ((IntKind.u64.wrap (Int.tdiv (Go.bits .or .u64 (jZ) (rE)) ((dP) / 4294967296)))*((dP) / 4294967296)))))))=some (r1,r2):=by first|(rw [abN] at H;exact H)|(simp only [abN] at H ⊢;exact H)
      (try rw [abN] at A7)
      have aFR:(a1 / 2 ^ min (aeU).toNat 64)=rE:=abN;have aFS:(aeU)<=64->(a1 / 2 ^ (aeU).toNat)=rE:=rJ abN;have ar0:=eq_true (of_decide_eq_true (by first|(with_reducible assumption)|assumption):0<=(ji8));obtain ⟨o9,abO⟩:∃ j_:Int,(shl .u64 a1 (ji8))=j_:=⟨_,rfl⟩;replace H:(if ((dP) / 4294967296)=0 then (none) else (aY.l0 k dP ji8 ((dP) / 4294967296) (Go.bits .and .u64 (dP) 4294967295) (Go.bits .or .u64 (jZ) (rE)) ((o9) / 4294967296) (Go.bits .and .u64 (o9) 4294967295) (IntKind.u64.wrap (Int.tdiv (Go.bits .or .u64 (jZ) (rE)) ((dP) / 4294967296))) (IntKind.u64.wrap ((Go.bits .or .u64 (jZ) (rE)) - (IntKind.u64.wrap ((IntKind.u64.wrap (Int.tdiv (Go.bits .or .u64 (jZ) (rE)) ((dP) / 4294967296)))*((dP) / 4294967296)))))))=some (r1,r2):=by first|(rw [abO] at H;exact H)|(simp only [abO] at H ⊢;exact H)
      (try rw [abO] at A7)
      have aFT:(IntKind.u64.wrap (a1*2 ^ min (ji8).toNat 64))=o9:=abO;have aFU:(ji8)<=64->(IntKind.u64.wrap (a1*2 ^ (ji8).toNat))=o9:=aaZ abO;by_cases c18:((dP) / 4294967296)=0
      ·rw [if_pos c18] at H;exact absurd H (by simp)
      ·rw [if_neg c18] at H;have aCb:(((dP) / 4294967296) == 0)=false:=beq_eq_false_iff_ne.mpr c18;have aIc:(((dP) / 4294967296) != 0)=true:=bne_iff_ne.mpr c18;have avE:=aj.mk H;clear H;go_enter Tryz.func157,Tryz.ntmps157;go_upto_block 0 with (first|(go_at_call 179;(with_reducible refine (bits_LeadingZeros64.calls a2 sH _ A7.out).mono ?_);rintro e w' ⟨rfl,⟨nd,rfl⟩⟩;(try exact ⟨rfl,_,zN⟩)))
       repeat (go_quiet (first|(go_at_call 179;(with_reducible refine (bits_LeadingZeros64.calls a2 sH _ A7.out).mono ?_);rintro e w' ⟨rfl,⟨nd,rfl⟩⟩;(try exact ⟨rfl,_,zN⟩)));go_upto_block 0 with (first|(go_at_call 179;(with_reducible refine (bits_LeadingZeros64.calls a2 sH _ A7.out).mono ?_);rintro e w' ⟨rfl,⟨nd,rfl⟩⟩;(try exact ⟨rfl,_,zN⟩))))
       (try simp only [Act.put,List.setIfInBounds_toArray,List.set_cons_zero,List.set_cons_succ])
       go_cut [15] (fun v15 wc=>∃ (kq:Nat) (qR:Int),v15 = .int .u64 qR/\aj (aY.j2 kq dP ji8 ((dP) / 4294967296) (Go.bits .and .u64 (dP) 4294967295) (Go.bits .or .u64 (jZ) (rE)) ((o9) / 4294967296) (Go.bits .and .u64 (o9) 4294967295) qR=some (r1,r2))/\aj (kq<=k)/\dA w wc)
       case first =>
        have H:=avE.out;clear avE;have H':=aj.mk H;clear H;go_wp2;repeat (go_quiet (fail);try go_wp2)
        go_loopg [15,16] k (fun kq v15 v16 w'=>∃ (adl:Int) (aaG:Int),v15 = .int .u64 adl/\v16 = .int .u64 aaG/\aj (aY.l0 kq dP ji8 ((dP) / 4294967296) (Go.bits .and .u64 (dP) 4294967295) (Go.bits .or .u64 (jZ) (rE)) ((o9) / 4294967296) (Go.bits .and .u64 (o9) 4294967295) adl aaG=some (r1,r2))/\aj (kq<=k)/\dA w w')
        case atStart=>exact ⟨(IntKind.u64.wrap (Int.tdiv (Go.bits .or .u64 (jZ) (rE)) ((dP) / 4294967296))),(IntKind.u64.wrap ((Go.bits .or .u64 (jZ) (rE)) - (IntKind.u64.wrap ((IntKind.u64.wrap (Int.tdiv (Go.bits .or .u64 (jZ) (rE)) ((dP) / 4294967296)))*((dP) / 4294967296))))),(by first|rfl|(simp;done)|(simp only [<- kT,<- qQ,<- abN] <;> (first|rfl|simp))|(simp [*];done)),(by first|rfl|(simp;done)|(simp only [<- kT,<- qQ,<- abN] <;> (first|rfl|simp))|(simp [*];done)),H',⟨Nat.le_refl _⟩,zW⟩
        case round =>
         clear H';obtain ⟨adl,aaG,rfl,rfl,HA,HK1,⟨m1,rfl⟩⟩:=hrel;cases gk with
         | zero=>exact absurd HA.out (by simp [aY.l0])
         | succ k1 =>
          have H:=HA.out;clear HA;simp only [aY.l0] at H;have avF:=aj.mk H;clear H;go_upto_region 17 with (fail);repeat (go_quiet (fail);go_upto_region 17 with (fail))
          go_cut [78] (fun v78 wc=>∃ (kq:Nat) (akC:Bool),v78 = .bool akC/\aj (aY.j1 kq dP ji8 ((dP) / 4294967296) (Go.bits .and .u64 (dP) 4294967295) (Go.bits .or .u64 (jZ) (rE)) ((o9) / 4294967296) (Go.bits .and .u64 (o9) 4294967295) adl aaG akC=some (r1,r2))/\aj (kq<=k1)/\dA w wc)
          case first =>
           have H:=avF.out;clear avF;by_cases c21:adl>=4294967296
           ·rw [if_pos c21] at H;have afL:=decide_eq_true c21;clear c21
            (first|rw [afL]|(simp only [bP,bU];rw [afL])|skip)
            have H':=aj.mk H;clear H;go_wp2;repeat (go_quiet (fail);try go_wp2)
            go_meet
            case rel=>exact ⟨_,(true),zT,H',⟨by have:=HK1.out;first|omega|exact Nat.le_refl _⟩,zW⟩
           ·rw [if_neg c21] at H;have afL:=decide_eq_false c21;clear c21
            (first|rw [afL]|(simp only [bP,bU];rw [afL])|skip)
            have H':=aj.mk H;clear H;go_wp2;repeat (go_quiet (fail);try go_wp2)
            go_meet
            case rel=>exact ⟨_,(decide ((IntKind.u64.wrap (adl*(Go.bits .and .u64 (dP) 4294967295))) > (IntKind.u64.wrap ((IntKind.u64.wrap (4294967296*aaG))+((o9) / 4294967296))))),(by first|rfl|(simp;done)|(simp only [<- kT,<- abO] <;> (first|rfl|simp))|(simp [*];done)),H',⟨by have:=HK1.out;first|omega|exact Nat.le_refl _⟩,zW⟩
          case rest =>
           clear avF;obtain ⟨kq,akC,rfl,HA,ar8,⟨aI8,rfl⟩⟩:=hcut;cases kq with
           | zero=>exact absurd HA.out (by simp [aY.j1])
           | succ aDI =>
            have H:=HA.out;clear HA;simp only [aY.j1] at H;by_cases c22:akC=true
            ·subst c22;rw [if_pos rfl] at H;(try dsimp only at H);by_cases c23:(IntKind.u64.wrap (aaG+((dP) / 4294967296)))>=4294967296
             ·rw [if_pos c23] at H;have akb:=decide_eq_true c23;clear c23;have H':=aj.mk H;clear H;go_wp2;repeat (go_quiet (fail);try go_wp2)
              go_meet
              case rel=>exact ⟨_,(IntKind.u64.wrap (adl - 1)),zT,H',⟨by have:=HK1.out;have:=ar8.out;first|omega|exact Nat.le_refl _⟩,zW⟩
             ·rw [if_neg c23] at H;have akb:=decide_eq_false c23;clear c23;have H':=aj.mk H;clear H;go_wp2;repeat (go_quiet (fail);try go_wp2)
              go_roundg aDI
              case measure=>have:=HK1.out;have:=ar8.out;omega
              case rel=>exact ⟨(IntKind.u64.wrap (adl - 1)),(IntKind.u64.wrap (aaG+((dP) / 4294967296))),zT,(by first|rfl|(simp;done)|(simp only [<- kT] <;> (first|rfl|simp))|(simp [*];done)),H',⟨by have:=HK1.out;have:=ar8.out;omega⟩,zW⟩
            ·replace c22:=Bool.eq_false_iff.mpr c22;subst c22;rw [if_neg (show ¬ (false=true) by decide)] at H;(try dsimp only at H);have H':=aj.mk H;clear H;go_wp2;repeat (go_quiet (fail);try go_wp2)
             go_meet
             case rel=>exact ⟨_,(adl),zT,H',⟨by have:=HK1.out;have:=ar8.out;first|omega|exact Nat.le_refl _⟩,zW⟩
       case rest =>
        clear avE;obtain ⟨kq,qR,rfl,HA,ar9,⟨aI9,rfl⟩⟩:=hcut;cases kq with
        | zero=>exact absurd HA.out (by simp [aY.j2])
        | succ azH =>
         have H:=HA.out;clear HA;simp only [aY.j2] at H;by_cases c24:((dP) / 4294967296)=0
         ·rw [if_pos c24] at H;exact absurd H (by simp)
         ·rw [if_neg c24] at H;have axh:(((dP) / 4294967296) == 0)=false:=beq_eq_false_iff_ne.mpr c24;have aId:(((dP) / 4294967296) != 0)=true:=bne_iff_ne.mpr c24;have H':=aj.mk H;clear H;go_wp2;repeat (go_quiet (fail);try go_wp2)
          go_loopg [16,18] azH (fun kq v16 v18 w'=>∃ (afS:Int) (yc:Int),v16 = .int .u64 afS/\v18 = .int .u64 yc/\aj (aY.l1 kq dP ji8 ((dP) / 4294967296) (Go.bits .and .u64 (dP) 4294967295) (Go.bits .and .u64 (o9) 4294967295) qR afS (IntKind.u64.wrap ((IntKind.u64.wrap ((IntKind.u64.wrap ((Go.bits .or .u64 (jZ) (rE))*4294967296))+((o9) / 4294967296))) - (IntKind.u64.wrap (qR*dP)))) yc=some (r1,r2))/\aj (kq<=azH)/\dA w w')
          case atStart=>exact ⟨(IntKind.u64.wrap ((IntKind.u64.wrap ((IntKind.u64.wrap ((IntKind.u64.wrap ((Go.bits .or .u64 (jZ) (rE))*4294967296))+((o9) / 4294967296))) - (IntKind.u64.wrap (qR*dP)))) - (IntKind.u64.wrap ((IntKind.u64.wrap (Int.tdiv (IntKind.u64.wrap ((IntKind.u64.wrap ((IntKind.u64.wrap ((Go.bits .or .u64 (jZ) (rE))*4294967296))+((o9) / 4294967296))) - (IntKind.u64.wrap (qR*dP)))) ((dP) / 4294967296)))*((dP) / 4294967296))))),(IntKind.u64.wrap (Int.tdiv (IntKind.u64.wrap ((IntKind.u64.wrap ((IntKind.u64.wrap ((Go.bits .or .u64 (jZ) (rE))*4294967296))+((o9) / 4294967296))) - (IntKind.u64.wrap (qR*dP)))) ((dP) / 4294967296))),(by first|rfl|(simp;done)|(simp only [<- kT,<- qQ,<- abN,<- abO] <;> (first|rfl|simp))|(simp [*];done)),(by first|rfl|(simp;done)|(simp only [<- kT,<- qQ,<- abN,<- abO] <;> (first|rfl|simp))|(simp [*];done)),H',⟨Nat.le_refl _⟩,zW⟩
          case round =>
           clear H';obtain ⟨afS,yc,rfl,rfl,HA,HK2,⟨m2,rfl⟩⟩:=hrel;cases gk with
           | zero=>exact absurd HA.out (by simp [aY.l1])
           | succ k2 =>
            have H:=HA.out;clear HA;simp only [aY.l1] at H;have avG:=aj.mk H;clear H;go_upto_region 24 with (fail);repeat (go_quiet (fail);go_upto_region 24 with (fail))
            go_cut [113] (fun aDJ wc=>∃ (kq:Nat) (ah7:Bool),aDJ = .bool ah7/\aj (aY.j4 kq dP ji8 ((dP) / 4294967296) (Go.bits .and .u64 (dP) 4294967295) (Go.bits .and .u64 (o9) 4294967295) qR afS (IntKind.u64.wrap ((IntKind.u64.wrap ((IntKind.u64.wrap ((Go.bits .or .u64 (jZ) (rE))*4294967296))+((o9) / 4294967296))) - (IntKind.u64.wrap (qR*dP)))) yc ah7=some (r1,r2))/\aj (kq<=k2)/\dA w wc)
            case first =>
             have H:=avG.out;clear avG;by_cases c26:yc>=4294967296
             ·rw [if_pos c26] at H;have afM:=decide_eq_true c26;clear c26
              (first|rw [afM]|(simp only [bP,bU];rw [afM])|skip)
              have H':=aj.mk H;clear H;go_wp2;repeat (go_quiet (fail);try go_wp2)
              go_meet
              case rel=>exact ⟨_,(true),zT,H',⟨by have:=ar9.out;have:=HK2.out;first|omega|exact Nat.le_refl _⟩,zW⟩
             ·rw [if_neg c26] at H;have afM:=decide_eq_false c26;clear c26
              (first|rw [afM]|(simp only [bP,bU];rw [afM])|skip)
              have H':=aj.mk H;clear H;go_wp2;repeat (go_quiet (fail);try go_wp2)
              go_meet
              case rel=>exact ⟨_,(decide ((IntKind.u64.wrap (yc*(Go.bits .and .u64 (dP) 4294967295))) > (IntKind.u64.wrap ((IntKind.u64.wrap (4294967296*afS))+(Go.bits .and .u64 (o9) 4294967295))))),(by first|rfl|(simp;done)|(simp only [<- kT,<- abO] <;> (first|rfl|simp))|(simp [*];done)),H',⟨by have:=ar9.out;have:=HK2.out;first|omega|exact Nat.le_refl _⟩,zW⟩
            case rest =>
             clear avG;obtain ⟨kq,ah7,rfl,HA,azI,⟨aJa,rfl⟩⟩:=hcut;cases kq with
             | zero=>exact absurd HA.out (by simp [aY.j4])
             | succ aDK =>
              have H:=HA.out;clear HA;simp only [aY.j4] at H;by_cases c27:ah7=true
              ·subst c27;rw [if_pos rfl] at H;(try dsimp only at H);by_cases c28:(IntKind.u64.wrap (afS+((dP) / 4294967296)))>=4294967296
               ·rw [if_pos c28] at H;have arQ:=decide_eq_true c28;clear c28;by_cases c29:0<=ji8
                ·rw [if_pos c29] at H;have aro:=eq_true c29;have aIe:=decide_eq_true c29;clear c29;obtain ⟨avH,akD⟩:∃ j_:Int,(shr .u64 (IntKind.u64.wrap ((IntKind.u64.wrap ((IntKind.u64.wrap ((IntKind.u64.wrap ((IntKind.u64.wrap ((IntKind.u64.wrap ((Go.bits .or .u64 (jZ) (rE))*4294967296))+((o9) / 4294967296))) - (IntKind.u64.wrap (qR*dP))))*4294967296))+(Go.bits .and .u64 (o9) 4294967295))) - (IntKind.u64.wrap ((IntKind.u64.wrap (yc - 1))*dP)))) ji8)=j_:=⟨_,rfl⟩;replace H:(some (IntKind.u64.wrap ((IntKind.u64.wrap (qR*4294967296))+(IntKind.u64.wrap (yc - 1))),avH))=some (r1,r2):=(by first|(rw [akD] at H;exact H)|(simp only [akD] at H ⊢;exact H));have aFV:((IntKind.u64.wrap ((IntKind.u64.wrap ((IntKind.u64.wrap ((IntKind.u64.wrap ((IntKind.u64.wrap ((IntKind.u64.wrap ((Go.bits .or .u64 (jZ) (rE))*4294967296))+((o9) / 4294967296))) - (IntKind.u64.wrap (qR*dP))))*4294967296))+(Go.bits .and .u64 (o9) 4294967295))) - (IntKind.u64.wrap ((IntKind.u64.wrap (yc - 1))*dP)))) / 2 ^ min ji8.toNat 64)=avH:=akD;have aFW:ji8<=64->((IntKind.u64.wrap ((IntKind.u64.wrap ((IntKind.u64.wrap ((IntKind.u64.wrap ((IntKind.u64.wrap ((IntKind.u64.wrap ((Go.bits .or .u64 (jZ) (rE))*4294967296))+((o9) / 4294967296))) - (IntKind.u64.wrap (qR*dP))))*4294967296))+(Go.bits .and .u64 (o9) 4294967295))) - (IntKind.u64.wrap ((IntKind.u64.wrap (yc - 1))*dP)))) / 2 ^ ji8.toNat)=avH:=rJ akD;simp only [Option.some.injEq,Prod.mk.injEq] at H;obtain ⟨rfl,rfl⟩:=H;go_wp2;repeat (go_quiet (fail);try go_wp2)
                 go_ret2;exact ⟨by first|rfl|(simp;done)|(simp only [<- sJ,<- kT,<- qQ,<- akB,<- abN,<- abO,<- akD] <;> (first|rfl|simp))|(simp [*];done),zW⟩
                ·rw [if_neg c29] at H;exact absurd H (by simp)
               ·rw [if_neg c28] at H;have arQ:=decide_eq_false c28;clear c28;have H':=aj.mk H;clear H;go_wp2;repeat (go_quiet (fail);try go_wp2)
                go_roundg aDK
                case measure=>have:=ar9.out;have:=HK2.out;have:=azI.out;omega
                case rel=>exact ⟨(IntKind.u64.wrap (afS+((dP) / 4294967296))),(IntKind.u64.wrap (yc - 1)),(by first|rfl|(simp;done)|(simp only [<- kT] <;> (first|rfl|simp))|(simp [*];done)),zT,H',⟨by have:=ar9.out;have:=HK2.out;have:=azI.out;omega⟩,zW⟩
              ·replace c27:=Bool.eq_false_iff.mpr c27;subst c27;rw [if_neg (show ¬ (false=true) by decide)] at H;(try dsimp only at H);by_cases c31:0<=ji8
               ·rw [if_pos c31] at H;have aIf:=eq_true c31;have aIg:=decide_eq_true c31;clear c31;obtain ⟨avI,akE⟩:∃ j_:Int,(shr .u64 (IntKind.u64.wrap ((IntKind.u64.wrap ((IntKind.u64.wrap ((IntKind.u64.wrap ((IntKind.u64.wrap ((IntKind.u64.wrap ((Go.bits .or .u64 (jZ) (rE))*4294967296))+((o9) / 4294967296))) - (IntKind.u64.wrap (qR*dP))))*4294967296))+(Go.bits .and .u64 (o9) 4294967295))) - (IntKind.u64.wrap (yc*dP)))) ji8)=j_:=⟨_,rfl⟩;replace H:(some (IntKind.u64.wrap ((IntKind.u64.wrap (qR*4294967296))+yc),avI))=some (r1,r2):=(by first|(rw [akE] at H;exact H)|(simp only [akE] at H ⊢;exact H));have aFX:((IntKind.u64.wrap ((IntKind.u64.wrap ((IntKind.u64.wrap ((IntKind.u64.wrap ((IntKind.u64.wrap ((IntKind.u64.wrap ((Go.bits .or .u64 (jZ) (rE))*4294967296))+((o9) / 4294967296))) - (IntKind.u64.wrap (qR*dP))))*4294967296))+(Go.bits .and .u64 (o9) 4294967295))) - (IntKind.u64.wrap (yc*dP)))) / 2 ^ min ji8.toNat 64)=avI:=akE;have aFY:ji8<=64->((IntKind.u64.wrap ((IntKind.u64.wrap ((IntKind.u64.wrap ((IntKind.u64.wrap ((IntKind.u64.wrap ((IntKind.u64.wrap ((Go.bits .or .u64 (jZ) (rE))*4294967296))+((o9) / 4294967296))) - (IntKind.u64.wrap (qR*dP))))*4294967296))+(Go.bits .and .u64 (o9) 4294967295))) - (IntKind.u64.wrap (yc*dP)))) / 2 ^ ji8.toNat)=avI:=rJ akE;simp only [Option.some.injEq,Prod.mk.injEq] at H;obtain ⟨rfl,rfl⟩:=H;go_wp2;repeat (go_quiet (fail);try go_wp2)
                go_ret2;exact ⟨by first|rfl|(simp;done)|(simp only [<- sJ,<- kT,<- qQ,<- akB,<- abN,<- abO,<- akE] <;> (first|rfl|simp))|(simp [*];done),zW⟩
               ·rw [if_neg c31] at H;exact absurd H (by simp)
     ·rw [if_neg c14] at H;exact absurd H (by simp)
    ·rw [if_neg c9] at H;exact absurd H (by simp)
def bG.j0:Nat->Bool->Int->Int->Bool->Option (Int)
 | 0,_,_,_,_=>none
 | k+1,x9,x11,x14,x60=>if x60=true then ((dG.f k (rO x11 1 0) (rM x11 1 0) x9).bind fun ao3=>(some ao3)) else ((dG.f k (rO x11 x14 0) (rM x11 x14 0) x9).bind fun t138=>(some t138))
def bG.f (k:Nat) (a0 a1 a2:Int):Option (Int):=if a2=0 then (some 0) else ((lQ.f a0 a1).bind fun aaM=>((pG.f a2).bind fun aax=>(if aaM.1>=aax then ((dG.f k 1 0 (aaM.2.2 != (decide (a2 < 0)))).bind fun avJ=>(some avJ)) else ((aY.f k aaM.1 aaM.2.1 aax).bind fun abP=>(if (aaM.2.2 != (decide (a2 < 0)))=true then (if abP.2 > (IntKind.u64.wrap (aax - abP.2)) then (bG.j0 k (aaM.2.2 != (decide (a2 < 0))) abP.1 0 true) else (if ((aaM.2.2 != (decide (a2 < 0)))=true) then (bG.j0 k (aaM.2.2 != (decide (a2 < 0))) abP.1 0 false) else (bG.j0 k (aaM.2.2 != (decide (a2 < 0))) abP.1 0 (decide (abP.2>=(IntKind.u64.wrap (aax - abP.2))))))) else (if ((aaM.2.2 != (decide (a2 < 0)))=true) then (bG.j0 k (aaM.2.2 != (decide (a2 < 0))) abP.1 0 false) else (bG.j0 k (aaM.2.2 != (decide (a2 < 0))) abP.1 0 (decide (abP.2>=(IntKind.u64.wrap (aax - abP.2)))))))))))
theorem bG.jH:∀ k,(∀ y0 y1 y2 y3,LeO (bG.j0 k y0 y1 y2 y3) (bG.j0 (k+1) y0 y1 y2 y3))
 | 0=>fun _ _ _ _ r h=>by simp [bG.j0] at h
 | k+1=>by
  have ih0:=bG.jH k
  ·intro y0 y1 y2 y3;unfold bG.j0;repeat' (with_reducible first|exact ih0 _ _ _ _|exact aY.mono _ _ _ _|exact dG.mono _ _ _ _|exact zM|refine LeO.ite ?_ ?_|refine LeO.bind ?_ (fun _ => ?_))
theorem bG.mono:∀ a0 a1 a2 k,LeO (bG.f k a0 a1 a2) (bG.f (k+1) a0 a1 a2):=by
 intro a0 a1 a2 k;have ih0:=bG.jH k;unfold bG.f;repeat' (with_reducible first|exact ih0 _ _ _ _|exact aY.mono _ _ _ _|exact dG.mono _ _ _ _|exact zM|refine LeO.ite ?_ ?_|refine LeO.bind ?_ (fun _ => ?_))
theorem bG.calls (k:Nat) (a0 a1 a2 r:Int) (w:World) (h:bG.f k a0 a1 a2=some r) :
  Calls Tryz.prog 130 #[.int .i64 a0,.int .i64 a1,.int .i64 a2] w fun e w'=>e = .returned (.int .i64 r)/\dA w w':=by
 have H:=h;clear h;unfold bG.f at H;by_cases c4:a2=0
 ·rw [if_pos c4] at H;have fH:(a2 == 0)=true:=beq_iff_eq.mpr c4;have aaS:(a2 != 0)=false:=bne_eq_false_iff_eq.mpr c4;clear c4;obtain rfl:=Option.some.inj H;go_enter Tryz.func130,Tryz.ntmps130;go_wp2;go_ret;exact ⟨zT,zW⟩
 ·rw [if_neg c4] at H;have fH:(a2 == 0)=false:=beq_eq_false_iff_ne.mpr c4;have aaS:(a2 != 0)=true:=bne_iff_ne.mpr c4;replace H:=zO H;obtain ⟨⟨t130,t131,nV⟩,A5,H⟩:=H;try dsimp only at H
  replace H:=zO H;obtain ⟨aax,A6,H⟩:=H;try dsimp only at H
  by_cases c7:t130>=aax
  ·rw [if_pos c7] at H;have jw:=decide_eq_true c7;clear c7;replace H:=zO H;obtain ⟨avJ,A8,H⟩:=H;try dsimp only at H
   obtain rfl:=Option.some.inj H;go_enter Tryz.func130,Tryz.ntmps130;go_wp2_with (first|((with_reducible refine ay (f:=154) rfl ?_);refine aH (some 21) rfl rfl Tryz.func154 (by kernel_rfl) rfl #[.int .i64 a0,.int .i64 a1] rfl zL ?_;(with_reducible refine (lQ.calls a0 a1 t130 t131 nV _ A5.out).mono ?_);rintro e w' ⟨rfl,⟨nd,rfl⟩⟩;refine ⟨_,rfl,?_⟩)|((with_reducible refine ay (f:=155) rfl ?_);refine aH (some 26) rfl rfl Tryz.func155 (by kernel_rfl) rfl #[.int .i64 a2] rfl zL ?_;(with_reducible refine (pG.calls a2 aax _ A6.out).mono ?_);rintro e w' ⟨rfl,⟨nd,rfl⟩⟩;refine ⟨_,rfl,?_⟩)|((with_reducible refine ay (f:=156) rfl ?_);refine aH (some 35) rfl rfl Tryz.func156 (by kernel_rfl) rfl #[.int .u64 1,.int .u64 0,.bool (nV != (decide (a2 < 0)))] rfl zL ?_;(with_reducible refine (dG.calls k 1 0 (nV != (decide (a2 < 0))) avJ _ A8.out).mono ?_);rintro e w' ⟨rfl,⟨nd,rfl⟩⟩;refine ⟨_,rfl,?_⟩));go_ret;exact ⟨zT,zW⟩
  ·rw [if_neg c7] at H;have jw:=decide_eq_false c7;clear c7;replace H:=zO H;obtain ⟨⟨xC,alU⟩,A9,H⟩:=H;try dsimp only at H
   rcases Bool.eq_false_or_eq_true (nV != (decide (a2 < 0))) with hsv|hsv
   ·have vC:(nV != (decide (a2 < 0)))=true:=hsv;have arI:(nV == (decide (a2 < 0)))=false:=(by simpa using hsv);have ai9:=aj.mk H;clear H;go_enter Tryz.func130,Tryz.ntmps130;go_upto_region 11 with (first|((with_reducible refine ay (f:=154) rfl ?_);refine aH (some 21) rfl rfl Tryz.func154 (by kernel_rfl) rfl #[.int .i64 a0,.int .i64 a1] rfl zL ?_;(with_reducible refine (lQ.calls a0 a1 t130 t131 nV _ A5.out).mono ?_);rintro e w' ⟨rfl,⟨nd,rfl⟩⟩;refine ⟨_,rfl,?_⟩)|((with_reducible refine ay (f:=155) rfl ?_);refine aH (some 26) rfl rfl Tryz.func155 (by kernel_rfl) rfl #[.int .i64 a2] rfl zL ?_;(with_reducible refine (pG.calls a2 aax _ A6.out).mono ?_);rintro e w' ⟨rfl,⟨nd,rfl⟩⟩;refine ⟨_,rfl,?_⟩)|((with_reducible refine ay (f:=157) rfl ?_);refine aH (some 40) rfl rfl Tryz.func157 (by kernel_rfl) rfl #[.int .u64 t130,.int .u64 t131,.int .u64 aax] rfl zL ?_;(with_reducible refine (aY.calls k t130 t131 aax xC alU _ A9.out).mono ?_);rintro e w' ⟨rfl,⟨nd,rfl⟩⟩;refine ⟨_,rfl,?_⟩))
    (try simp only [Act.put,List.setIfInBounds_toArray,List.set_cons_zero,List.set_cons_succ])
    go_cut [60] (fun v60 wc=>∃ (kq:Nat) (adn:Bool),v60 = .bool adn/\aj (bG.j0 kq (nV != (decide (a2 < 0))) xC 0 adn=some r)/\aj (kq<=k)/\dA w wc)
    case first =>
     have H:=ai9.out;clear ai9;by_cases c11:(nV != (decide (a2 < 0)))=true
     ·rw [if_pos c11] at H;have jy:(nV != (decide (a2 < 0)))=true:=c11
      (try (have aac:decide (nV=(decide (a2 < 0)))=false:=by simpa using c11))
      (try (have arJ:(nV == (decide (a2 < 0)))=false:=by simpa using c11))
      (try (have aBT:¬ (nV=(decide (a2 < 0))):=by simpa using c11))
      clear c11
      (first|rw [jy]|(simp only [bP,bU];rw [jy])|skip)
      by_cases c12:alU > (IntKind.u64.wrap (aax - alU))
      ·rw [if_pos c12] at H;have yU:=decide_eq_true c12;clear c12;have H':=aj.mk H;clear H;go_wp2;go_meet
       case rel=>exact ⟨_,(true),zT,H',⟨by first|omega|exact Nat.le_refl _⟩,zW⟩
      ·rw [if_neg c12] at H;have yU:=decide_eq_false c12;clear c12;by_cases c13:((nV != (decide (a2 < 0)))=true)
       ·rw [if_pos c13] at H;have aaf:(nV != (decide (a2 < 0)))=true:=c13
        (try (have akF:decide (nV=(decide (a2 < 0)))=false:=by simpa using c13))
        (try (have aIh:(nV == (decide (a2 < 0)))=false:=by simpa using c13))
        (try (have aIi:¬ (nV=(decide (a2 < 0))):=by simpa using c13))
        clear c13;have H':=aj.mk H;clear H;go_wp2;go_meet
        case rel=>exact ⟨_,(false),zT,H',⟨by first|omega|exact Nat.le_refl _⟩,zW⟩
       ·rw [if_neg c13] at H;have aaf:(nV != (decide (a2 < 0)))=false:=(by simpa using c13);exact absurd (vC.symm.trans aaf) (by decide)
     ·rw [if_neg c11] at H;have jy:(nV != (decide (a2 < 0)))=false:=(by simpa using c11);exact absurd (vC.symm.trans jy) (by decide)
    case rest =>
     clear ai9;obtain ⟨kq,adn,rfl,HA,HJ9,⟨mc9,rfl⟩⟩:=hcut;cases kq with
     | zero=>exact absurd HA.out (by simp [bG.j0])
     | succ kj9 =>
      have H:=HA.out;clear HA;simp only [bG.j0] at H;by_cases c15:adn=true
      ·subst c15;rw [if_pos rfl] at H;(try dsimp only at H);replace H:=zO H;obtain ⟨ao3,A16,H⟩:=H;try dsimp only at H
       obtain rfl:=Option.some.inj H;go_wp2_with (first|((with_reducible refine ay (f:=156) rfl ?_);refine aH (some 70) rfl rfl Tryz.func156 (by kernel_rfl) rfl #[.int .u64 (rO xC 1 0),.int .u64 (rM xC 1 0),.bool true] rfl zL ?_;(with_reducible refine (dG.calls kj9 (rO xC 1 0) (rM xC 1 0) true ao3 _ (by have h:=A16.out;rw [vC] at h;exact h)).mono ?_);rintro e w' ⟨rfl,⟨nd,rfl⟩⟩;refine ⟨_,rfl,?_⟩));go_ret;exact ⟨zT,zW⟩
      ·replace c15:=Bool.eq_false_iff.mpr c15;subst c15;rw [if_neg (show ¬ (false=true) by decide)] at H;(try dsimp only at H);replace H:=zO H;obtain ⟨t138,A17,H⟩:=H;try dsimp only at H
       obtain rfl:=Option.some.inj H;go_wp2_with (first|((with_reducible refine ay (f:=156) rfl ?_);refine aH (some 70) rfl rfl Tryz.func156 (by kernel_rfl) rfl #[.int .u64 (rO xC 0 0),.int .u64 (rM xC 0 0),.bool true] rfl zL ?_;(with_reducible refine (dG.calls kj9 (rO xC 0 0) (rM xC 0 0) true t138 _ (by have h:=A17.out;rw [vC] at h;exact h)).mono ?_);rintro e w' ⟨rfl,⟨nd,rfl⟩⟩;refine ⟨_,rfl,?_⟩));go_ret;exact ⟨zT,zW⟩
   ·have vC:(nV != (decide (a2 < 0)))=false:=hsv;have arI:(nV == (decide (a2 < 0)))=true:=(by simpa using hsv);have ai9:=aj.mk H;clear H;go_enter Tryz.func130,Tryz.ntmps130;go_upto_region 11 with (first|((with_reducible refine ay (f:=154) rfl ?_);refine aH (some 21) rfl rfl Tryz.func154 (by kernel_rfl) rfl #[.int .i64 a0,.int .i64 a1] rfl zL ?_;(with_reducible refine (lQ.calls a0 a1 t130 t131 nV _ A5.out).mono ?_);rintro e w' ⟨rfl,⟨nd,rfl⟩⟩;refine ⟨_,rfl,?_⟩)|((with_reducible refine ay (f:=155) rfl ?_);refine aH (some 26) rfl rfl Tryz.func155 (by kernel_rfl) rfl #[.int .i64 a2] rfl zL ?_;(with_reducible refine (pG.calls a2 aax _ A6.out).mono ?_);rintro e w' ⟨rfl,⟨nd,rfl⟩⟩;refine ⟨_,rfl,?_⟩)|((with_reducible refine ay (f:=157) rfl ?_);refine aH (some 40) rfl rfl Tryz.func157 (by kernel_rfl) rfl #[.int .u64 t130,.int .u64 t131,.int .u64 aax] rfl zL ?_;(with_reducible refine (aY.calls k t130 t131 aax xC alU _ A9.out).mono ?_);rintro e w' ⟨rfl,⟨nd,rfl⟩⟩;refine ⟨_,rfl,?_⟩))
    (try simp only [Act.put,List.setIfInBounds_toArray,List.set_cons_zero,List.set_cons_succ])
    go_cut [60] (fun v60 wc=>∃ (kq:Nat) (adn:Bool),v60 = .bool adn/\aj (bG.j0 kq (nV != (decide (a2 < 0))) xC 0 adn=some r)/\aj (kq<=k)/\dA w wc)
    case first =>
     have H:=ai9.out;clear ai9;by_cases c11:(nV != (decide (a2 < 0)))=true
     ·rw [if_pos c11] at H;have jy:(nV != (decide (a2 < 0)))=true:=c11;exact absurd (vC.symm.trans jy) (by decide)
     ·rw [if_neg c11] at H;have jy:(nV != (decide (a2 < 0)))=false:=by simpa using c11
      (try (have aac:decide (nV=(decide (a2 < 0)))=true:=by simpa using c11))
      (try (have arJ:(nV == (decide (a2 < 0)))=true:=by simpa using c11))
      clear c11
      (first|rw [jy]|(simp only [bP,bU];rw [jy])|skip)
      by_cases c14:((nV != (decide (a2 < 0)))=true)
      ·rw [if_pos c14] at H;have acu:(nV != (decide (a2 < 0)))=true:=c14;exact absurd (vC.symm.trans acu) (by decide)
      ·rw [if_neg c14] at H;have acu:(nV != (decide (a2 < 0)))=false:=by simpa using c14
       (try (have anp:decide (nV=(decide (a2 < 0)))=true:=by simpa using c14))
       (try (have aIj:(nV == (decide (a2 < 0)))=true:=by simpa using c14))
       clear c14;have H':=aj.mk H;clear H;go_wp2;go_meet
       case rel=>exact ⟨_,(decide (alU>=(IntKind.u64.wrap (aax - alU)))),zT,H',⟨by first|omega|exact Nat.le_refl _⟩,zW⟩
    case rest =>
     clear ai9;obtain ⟨kq,adn,rfl,HA,HJ9,⟨mc9,rfl⟩⟩:=hcut;cases kq with
     | zero=>exact absurd HA.out (by simp [bG.j0])
     | succ kj9 =>
      have H:=HA.out;clear HA;simp only [bG.j0] at H;by_cases c15:adn=true
      ·subst c15;rw [if_pos rfl] at H;(try dsimp only at H);replace H:=zO H;obtain ⟨ao3,A16,H⟩:=H;try dsimp only at H
       obtain rfl:=Option.some.inj H;go_wp2_with (first|((with_reducible refine ay (f:=156) rfl ?_);refine aH (some 70) rfl rfl Tryz.func156 (by kernel_rfl) rfl #[.int .u64 (rO xC 1 0),.int .u64 (rM xC 1 0),.bool false] rfl zL ?_;(with_reducible refine (dG.calls kj9 (rO xC 1 0) (rM xC 1 0) false ao3 _ (by have h:=A16.out;rw [vC] at h;exact h)).mono ?_);rintro e w' ⟨rfl,⟨nd,rfl⟩⟩;refine ⟨_,rfl,?_⟩));go_ret;exact ⟨zT,zW⟩
      ·replace c15:=Bool.eq_false_iff.mpr c15;subst c15;rw [if_neg (show ¬ (false=true) by decide)] at H;(try dsimp only at H);replace H:=zO H;obtain ⟨t138,A17,H⟩:=H;try dsimp only at H
       obtain rfl:=Option.some.inj H;go_wp2_with (first|((with_reducible refine ay (f:=156) rfl ?_);refine aH (some 70) rfl rfl Tryz.func156 (by kernel_rfl) rfl #[.int .u64 (rO xC 0 0),.int .u64 (rM xC 0 0),.bool false] rfl zL ?_;(with_reducible refine (dG.calls kj9 (rO xC 0 0) (rM xC 0 0) false t138 _ (by have h:=A17.out;rw [vC] at h;exact h)).mono ?_);rintro e w' ⟨rfl,⟨nd,rfl⟩⟩;refine ⟨_,rfl,?_⟩));go_ret;exact ⟨zT,zW⟩
def gK.j0:Nat->Int->Int->Bool->Option (Int)
 | 0,_,_,_=>none
 | k+1,x0,x1,x23=>if x23=true then (some 0) else (if (mx x0 (wrap64 (-x0)))>=x1 then ((bG.f k (wrap64 ((wrap64 ((wrap64 ((wrap64 ((wrap64 ((wrap64 (-(mx x0 (wrap64 (-x0)))))*(mx x0 (wrap64 (-x0)))))*(mx x0 (wrap64 (-x0)))))+(wrap64 ((wrap64 ((wrap64 (5*(mx x0 (wrap64 (-x0)))))*(mx x0 (wrap64 (-x0)))))*x1)))) - (wrap64 ((wrap64 ((wrap64 (8*(mx x0 (wrap64 (-x0)))))*x1))*x1))))+(wrap64 ((wrap64 ((wrap64 (4*x1))*x1))*x1)))) 1073741824 (wrap64 ((wrap64 ((wrap64 (2*x1))*x1))*x1))).bind fun t139=>(some t139)) else ((bG.f k (wrap64 ((wrap64 ((wrap64 ((wrap64 ((wrap64 (3*(mx x0 (wrap64 (-x0)))))*(mx x0 (wrap64 (-x0)))))*(mx x0 (wrap64 (-x0))))) - (wrap64 ((wrap64 ((wrap64 (5*(mx x0 (wrap64 (-x0)))))*(mx x0 (wrap64 (-x0)))))*x1))))+(wrap64 ((wrap64 ((wrap64 (2*x1))*x1))*x1)))) 1073741824 (wrap64 ((wrap64 ((wrap64 (2*x1))*x1))*x1))).bind fun ao4=>(some ao4)))
def gK.f (k:Nat) (a0 a1:Int):Option (Int):=if a1 < 1 then (gK.j0 k a0 a1 true) else (if a1 > 262144 then (gK.j0 k a0 a1 true) else (if a0>=(wrap64 (2*a1)) then (gK.j0 k a0 a1 true) else (gK.j0 k a0 a1 (decide (a0<=(wrap64 ((-2)*a1)))))))
theorem gK.jH:∀ k,(∀ y0 y1 y2,LeO (gK.j0 k y0 y1 y2) (gK.j0 (k+1) y0 y1 y2))
 | 0=>fun _ _ _ r h=>by simp [gK.j0] at h
 | k+1=>by
  have ih0:=gK.jH k
  ·intro y0 y1 y2;unfold gK.j0;repeat' (with_reducible first|exact ih0 _ _ _|exact bG.mono _ _ _ _|exact zM|refine LeO.ite ?_ ?_|refine LeO.bind ?_ (fun _ => ?_))
theorem gK.mono:∀ a0 a1 k,LeO (gK.f k a0 a1) (gK.f (k+1) a0 a1):=by
 intro a0 a1 k;have ih0:=gK.jH k;unfold gK.f;repeat' (with_reducible first|exact ih0 _ _ _|exact bG.mono _ _ _ _|exact zM|refine LeO.ite ?_ ?_|refine LeO.bind ?_ (fun _ => ?_))
theorem gK.calls (k:Nat) (a0 a1 r:Int) (w:World) (h:gK.f k a0 a1=some r) :
  Calls Tryz.prog 108 #[.int .i64 a0,.int .i64 a1] w fun e w'=>e = .returned (.int .i64 r)/\Below w.heap.size w w':=by
 have HB:=aj.mk (Below.refl w.heap.size w);have H:=h;clear h;unfold gK.f at H;have HC3:=aj.mk H;clear H;go_enter Tryz.func108,Tryz.ntmps108;go_upto_region 1 with (fail);go_cut [23] (fun v23 wc=>∃ (kq:Nat) (anx:Bool),v23 = .bool anx/\aj (gK.j0 kq a0 a1 anx=some r)/\aj (kq<=k)/\aj (Below w.heap.size w wc))
 case first =>
  have H:=HC3.out;clear HC3;by_cases c4:a1 < 1
  ·rw [if_pos c4] at H;have fH:=decide_eq_true c4;clear c4
   (first|rw [fH]|(simp only [bP,bU];rw [fH])|skip)
   have H':=aj.mk H;clear H;go_wp2;go_meet
   case rel=>exact ⟨_,(true),zT,H',⟨by first|omega|exact Nat.le_refl _⟩,⟨zB⟩⟩
  ·rw [if_neg c4] at H;have fH:=decide_eq_false c4;clear c4
   (first|rw [fH]|(simp only [bP,bU];rw [fH])|skip)
   by_cases c5:a1 > 262144
   ·rw [if_pos c5] at H;have gJ:=decide_eq_true c5;clear c5;have H':=aj.mk H;clear H;go_wp2;go_meet
    case rel=>exact ⟨_,(true),zT,H',⟨by first|omega|exact Nat.le_refl _⟩,⟨zB⟩⟩
   ·rw [if_neg c5] at H;have gJ:=decide_eq_false c5;clear c5;by_cases c6:a0>=(wrap64 (2*a1))
    ·rw [if_pos c6] at H;have gI:=decide_eq_true c6;clear c6;have H':=aj.mk H;clear H;go_wp2;go_meet
     case rel=>exact ⟨_,(true),zT,H',⟨by first|omega|exact Nat.le_refl _⟩,⟨zB⟩⟩
    ·rw [if_neg c6] at H;have gI:=decide_eq_false c6;clear c6;have H':=aj.mk H;clear H;go_wp2;go_meet
     case rel=>exact ⟨_,(decide (a0<=(wrap64 ((-2)*a1)))),zT,H',⟨by first|omega|exact Nat.le_refl _⟩,⟨zB⟩⟩
 case rest =>
  clear HC3;obtain ⟨kq,anx,rfl,HA,HJ2,HB⟩:=hcut;cases kq with
  | zero=>exact absurd HA.out (by simp [gK.j0])
  | succ kj2 =>
   have H:=HA.out;clear HA;simp only [gK.j0] at H;by_cases c7:anx=true
   ·subst c7;rw [if_pos rfl] at H;(try dsimp only at H);obtain rfl:=Option.some.inj H;go_wp2;go_ret;exact ⟨zS,zB⟩
   ·replace c7:=Bool.eq_false_iff.mpr c7;subst c7;rw [if_neg (show ¬ (false=true) by decide)] at H;(try dsimp only at H);obtain ⟨ji8,sJ⟩:∃ j_:Int,(mx a0 (wrap64 (-a0)))=j_:=⟨_,rfl⟩;replace H:(if (ji8)>=a1 then ((bG.f kj2 (wrap64 ((wrap64 ((wrap64 ((wrap64 ((wrap64 ((wrap64 (-(ji8)))*(ji8)))*(ji8)))+(wrap64 ((wrap64 ((wrap64 (5*(ji8)))*(ji8)))*a1)))) - (wrap64 ((wrap64 ((wrap64 (8*(ji8)))*a1))*a1))))+(wrap64 ((wrap64 ((wrap64 (4*a1))*a1))*a1)))) 1073741824 (wrap64 ((wrap64 ((wrap64 (2*a1))*a1))*a1))).bind fun t139=>(some t139)) else ((bG.f kj2 (wrap64 ((wrap64 ((wrap64 ((wrap64 ((wrap64 (3*(ji8)))*(ji8)))*(ji8))) - (wrap64 ((wrap64 ((wrap64 (5*(ji8)))*(ji8)))*a1))))+(wrap64 ((wrap64 ((wrap64 (2*a1))*a1))*a1)))) 1073741824 (wrap64 ((wrap64 ((wrap64 (2*a1))*a1))*a1))).bind fun ao4=>(some ao4)))=some r:=(by first|(rw [sJ] at H;exact H)|(simp only [sJ] at H ⊢;exact H));have axu:(if a0 < (wrap64 (-a0)) then (wrap64 (-a0)) else a0)=ji8:=sJ;by_cases c9:(ji8)>=a1
    ·rw [if_pos c9] at H;have o8:=decide_eq_true c9;clear c9;replace H:=zO H;obtain ⟨t139,A10,H⟩:=H;try dsimp only at H
     obtain rfl:=Option.some.inj H;go_wp2_with (first|((with_reducible refine ay (f:=130) rfl ?_);refine aH (some 85) rfl rfl Tryz.func130 (by kernel_rfl) rfl #[.int .i64 (wrap64 ((wrap64 ((wrap64 ((wrap64 ((wrap64 ((wrap64 (-(ji8)))*(ji8)))*(ji8)))+(wrap64 ((wrap64 ((wrap64 (5*(ji8)))*(ji8)))*a1)))) - (wrap64 ((wrap64 ((wrap64 (8*(ji8)))*a1))*a1))))+(wrap64 ((wrap64 ((wrap64 (4*a1))*a1))*a1)))),.int .i64 1073741824,.int .i64 (wrap64 ((wrap64 ((wrap64 (2*a1))*a1))*a1))] rfl (by (try simp only [List.map_toArray,List.map_cons,List.map_nil]);first|done|(simp only [sJ];rfl)|(simp only [Int.tdiv_eq_ediv_of_nonneg hji8l];rfl)|rfl|(simp only [List.length_drop,List.length_take];rfl)) ?_;(with_reducible refine (bG.calls kj2 (wrap64 ((wrap64 ((wrap64 ((wrap64 ((wrap64 ((wrap64 (-(ji8)))*(ji8)))*(ji8)))+(wrap64 ((wrap64 ((wrap64 (5*(ji8)))*(ji8)))*a1)))) - (wrap64 ((wrap64 ((wrap64 (8*(ji8)))*a1))*a1))))+(wrap64 ((wrap64 ((wrap64 (4*a1))*a1))*a1)))) 1073741824 (wrap64 ((wrap64 ((wrap64 (2*a1))*a1))*a1)) t139 _ A10.out).mono ?_);rintro e w' ⟨rfl,⟨nd,rfl⟩⟩;refine ⟨_,rfl,?_⟩));go_ret;exact ⟨by first|rfl|(simp [bJ,bK] <;> rfl)|(simp only [<- sJ];first|rfl|(simp [bJ,bK] <;> rfl))|(simp [*,bJ,bK] <;> rfl),zB⟩
    ·rw [if_neg c9] at H;have o8:=decide_eq_false c9;clear c9;replace H:=zO H;obtain ⟨ao4,A11,H⟩:=H;try dsimp only at H
     obtain rfl:=Option.some.inj H;go_wp2_with (first|((with_reducible refine ay (f:=130) rfl ?_);refine aH (some 85) rfl rfl Tryz.func130 (by kernel_rfl) rfl #[.int .i64 (wrap64 ((wrap64 ((wrap64 ((wrap64 ((wrap64 (3*(ji8)))*(ji8)))*(ji8))) - (wrap64 ((wrap64 ((wrap64 (5*(ji8)))*(ji8)))*a1))))+(wrap64 ((wrap64 ((wrap64 (2*a1))*a1))*a1)))),.int .i64 1073741824,.int .i64 (wrap64 ((wrap64 ((wrap64 (2*a1))*a1))*a1))] rfl (by (try simp only [List.map_toArray,List.map_cons,List.map_nil]);first|done|(simp only [sJ];rfl)|(simp only [Int.tdiv_eq_ediv_of_nonneg hji8l];rfl)|rfl|(simp only [List.length_drop,List.length_take];rfl)) ?_;(with_reducible refine (bG.calls kj2 (wrap64 ((wrap64 ((wrap64 ((wrap64 ((wrap64 (3*(ji8)))*(ji8)))*(ji8))) - (wrap64 ((wrap64 ((wrap64 (5*(ji8)))*(ji8)))*a1))))+(wrap64 ((wrap64 ((wrap64 (2*a1))*a1))*a1)))) 1073741824 (wrap64 ((wrap64 ((wrap64 (2*a1))*a1))*a1)) ao4 _ A11.out).mono ?_);rintro e w' ⟨rfl,⟨nd,rfl⟩⟩;refine ⟨_,rfl,?_⟩));go_ret;exact ⟨by first|rfl|(simp [bJ,bK] <;> rfl)|(simp only [<- sJ];first|rfl|(simp [bJ,bK] <;> rfl))|(simp [*,bJ,bK] <;> rfl),zB⟩
def mD.f (a0 a1:Int):Option (Int):=if a1<=0 then (some a0) else (if a1>=64 then (some 0) else (if 0<=a1 then (if 0<=(wrap64 (a1 - 1)) then (some (wrap64 ((shr .i64 a0 a1)+(Go.bits .and .i64 (shr .i64 a0 (wrap64 (a1 - 1))) 1)))) else (none)) else (none)))
theorem mD.calls (a0 a1 r:Int) (w:World) (h:mD.f a0 a1=some r) :
  Calls Tryz.prog 100 #[.int .i64 a0,.int .i64 a1] w fun e w'=>e = .returned (.int .i64 r)/\dA w w':=by
 have H:=h;clear h;unfold mD.f at H;by_cases c3:a1<=0
 ·rw [if_pos c3] at H;have fU:=decide_eq_true c3;clear c3;obtain rfl:=Option.some.inj H;go_enter Tryz.func100,Tryz.ntmps100;go_wp2;repeat (go_quiet (fail);try go_wp2)
  go_ret;exact ⟨zT,zW⟩
 ·rw [if_neg c3] at H;have fU:=decide_eq_false c3;clear c3;by_cases c4:a1>=64
  ·rw [if_pos c4] at H;have fH:=decide_eq_true c4;clear c4;obtain rfl:=Option.some.inj H;go_enter Tryz.func100,Tryz.ntmps100;go_wp2;repeat (go_quiet (fail);try go_wp2)
   go_ret;exact ⟨zT,zW⟩
  ·rw [if_neg c4] at H;have fH:=decide_eq_false c4;clear c4;by_cases c5:0<=a1
   ·rw [if_pos c5] at H;have gJ:=eq_true c5;have ab8:=decide_eq_true c5;clear c5;obtain ⟨ji6,vW⟩:∃ j_:Int,(shr .i64 a0 a1)=j_:=⟨_,rfl⟩;replace H:(if 0<=(wrap64 (a1 - 1)) then (some (wrap64 ((ji6)+(Go.bits .and .i64 (shr .i64 a0 (wrap64 (a1 - 1))) 1)))) else (none))=some r:=(by first|(rw [vW] at H;exact H)|(simp only [vW] at H ⊢;exact H));have awU:(a0 / 2 ^ min a1.toNat 64)=ji6:=vW;have aAQ:a1<=64->(a0 / 2 ^ a1.toNat)=ji6:=rJ vW;obtain ⟨ji7,uF⟩:∃ j_:Int,(wrap64 (a1 - 1))=j_:=⟨_,rfl⟩;replace H:(if 0<=(ji7) then (some (wrap64 ((ji6)+(Go.bits .and .i64 (shr .i64 a0 (ji7)) 1)))) else (none))=some r:=(by first|(rw [uF] at H;exact H)|(simp only [uF] at H ⊢;exact H));have aB7:(IntKind.i64.wrap (a1 - 1))=ji7:=(bP _).trans uF;by_cases c8:0<=(ji7)
    ·rw [if_pos c8] at H;have qj:=eq_true c8;have abZ:=decide_eq_true c8;clear c8;obtain ⟨ji9,oO⟩:∃ j_:Int,(shr .i64 a0 (ji7))=j_:=⟨_,rfl⟩;replace H:(some (wrap64 ((ji6)+(Go.bits .and .i64 (ji9) 1))))=some r:=(by first|(rw [oO] at H;exact H)|(simp only [oO] at H ⊢;exact H));have aqR:(a0 / 2 ^ min (ji7).toNat 64)=ji9:=oO;have aCk:(ji7)<=64->(a0 / 2 ^ (ji7).toNat)=ji9:=rJ oO;obtain rfl:=Option.some.inj H;go_enter Tryz.func100,Tryz.ntmps100;go_wp2;repeat (go_quiet (fail);try go_wp2)
     go_ret;exact ⟨by first|rfl|(simp;done)|(simp only [<- vW,<- uF,<- oO] <;> (first|rfl|simp))|(simp [*];done),zW⟩
    ·rw [if_neg c8] at H;exact absurd H (by simp)
   ·rw [if_neg c5] at H;exact absurd H (by simp)
def yY.f (a0 a1:Int):Option (Bool):=if a1>=1 then (if a1<=1048576 then (if a0>=(wrap64 ((-4)*a1)) then (some (decide (a0<=(wrap64 (4*a1))))) else (some false)) else (some false)) else (some false)
theorem yY.calls (a0 a1:Int) (r:Bool) (w:World) (h:yY.f a0 a1=some r) :
  Calls Tryz.prog 174 #[.int .i64 a0,.int .i64 a1] w fun e w'=>e = .returned (.bool r)/\dA w w':=by
 have H:=h;clear h;unfold yY.f at H;by_cases c3:a1>=1
 ·rw [if_pos c3] at H;have fU:=decide_eq_true c3;clear c3;by_cases c4:a1<=1048576
  ·rw [if_pos c4] at H;have fH:=decide_eq_true c4;clear c4;by_cases c5:a0>=(wrap64 ((-4)*a1))
   ·rw [if_pos c5] at H;have gJ:=decide_eq_true c5;clear c5;obtain rfl:=Option.some.inj H;go_enter Tryz.func174,Tryz.ntmps174;go_wp2;go_ret;exact ⟨zT,zW⟩
   ·rw [if_neg c5] at H;have gJ:=decide_eq_false c5;clear c5;obtain rfl:=Option.some.inj H;go_enter Tryz.func174,Tryz.ntmps174;go_wp2;go_ret;exact ⟨zT,zW⟩
  ·rw [if_neg c4] at H;have fH:=decide_eq_false c4;clear c4;obtain rfl:=Option.some.inj H;go_enter Tryz.func174,Tryz.ntmps174;go_wp2;go_ret;exact ⟨zT,zW⟩
 ·rw [if_neg c3] at H;have fU:=decide_eq_false c3;clear c3;obtain rfl:=Option.some.inj H;go_enter Tryz.func174,Tryz.ntmps174;go_wp2;go_ret;exact ⟨zT,zW⟩
def uO.f (a0:Int):Option (Int):=some (mx a0 (wrap64 (-a0)))
theorem uO.calls (a0 r:Int) (w:World) (h:uO.f a0=some r) :
  Calls Tryz.prog 175 #[.int .i64 a0] w fun e w'=>e = .returned (.int .i64 r)/\Below w.heap.size w w':=by
 have HB:=aj.mk (Below.refl w.heap.size w);have H:=h;clear h;unfold uO.f at H;obtain ⟨ji2,acj⟩:∃ j_:Int,(mx a0 (wrap64 (-a0)))=j_:=⟨_,rfl⟩;replace H:(some ji2)=some r:=(by first|(rw [acj] at H;exact H)|(simp only [acj] at H ⊢;exact H));have aCl:(if a0 < (wrap64 (-a0)) then (wrap64 (-a0)) else a0)=ji2:=acj;obtain rfl:=Option.some.inj H;go_enter Tryz.func175,Tryz.ntmps175;go_wp2;go_ret;exact ⟨by first|rfl|(simp [bJ,bK] <;> rfl)|(simp only [<- acj];first|rfl|(simp [bJ,bK] <;> rfl))|(simp [*,bJ,bK] <;> rfl),zB⟩
def qy.f (a0 a1 a2:Int):Option (Int × Int):=if a2>=64 then (if 0<=(wrap64 (a2 - 64)) then (some (0,shr .u64 a0 (wrap64 (a2 - 64)))) else (none)) else (if 0<=a2 then (if 0<=(wrap64 (64 - a2)) then (some (shr .u64 a0 a2,Go.bits .or .u64 (shr .u64 a1 a2) (shl .u64 a0 (wrap64 (64 - a2))))) else (none)) else (none))
theorem qy.calls (a0 a1 a2 r1 r2:Int) (w:World) (h:qy.f a0 a1 a2=some (r1,r2)) :
  Calls Tryz.prog 188 #[.int .u64 a0,.int .u64 a1,.int .i64 a2] w fun e w'=>e = .returned (.tuple #[.int .u64 r1,.int .u64 r2])/\dA w w':=by
 have H:=h;clear h;unfold qy.f at H;by_cases c4:a2>=64
 ·rw [if_pos c4] at H;have fH:=decide_eq_true c4;clear c4;obtain ⟨ji5,aay⟩:∃ j_:Int,(wrap64 (a2 - 64))=j_:=⟨_,rfl⟩;replace H:(if 0<=(ji5) then (some (0,shr .u64 a0 (ji5))) else (none))=some (r1,r2):=(by first|(rw [aay] at H;exact H)|(simp only [aay] at H ⊢;exact H));have aIk:(IntKind.i64.wrap (a2 - 64))=ji5:=(bP _).trans aay;by_cases c6:0<=(ji5)
  ·rw [if_pos c6] at H;have gI:=eq_true c6;have vU:=decide_eq_true c6;clear c6;obtain ⟨ji7,uF⟩:∃ j_:Int,(shr .u64 a0 (ji5))=j_:=⟨_,rfl⟩;replace H:(some (0,ji7))=some (r1,r2):=(by first|(rw [uF] at H;exact H)|(simp only [uF] at H ⊢;exact H));have aCm:(a0 / 2 ^ min (ji5).toNat 64)=ji7:=uF;have aIl:(ji5)<=64->(a0 / 2 ^ (ji5).toNat)=ji7:=rJ uF;simp only [Option.some.injEq,Prod.mk.injEq] at H;obtain ⟨rfl,rfl⟩:=H;go_enter Tryz.func188,Tryz.ntmps188;go_wp2;repeat (go_quiet (fail);try go_wp2)
   go_ret2;exact ⟨by first|rfl|(simp;done)|(simp only [<- aay,<- uF] <;> (first|rfl|simp))|(simp [*];done),zW⟩
  ·rw [if_neg c6] at H;exact absurd H (by simp)
 ·rw [if_neg c4] at H;have fH:=decide_eq_false c4;clear c4;by_cases c8:0<=a2
  ·rw [if_pos c8] at H;have qj:=eq_true c8;have abZ:=decide_eq_true c8;clear c8;obtain ⟨ji9,oO⟩:∃ j_:Int,(shr .u64 a0 a2)=j_:=⟨_,rfl⟩;replace H:(if 0<=(wrap64 (64 - a2)) then (some (ji9,Go.bits .or .u64 (shr .u64 a1 a2) (shl .u64 a0 (wrap64 (64 - a2))))) else (none))=some (r1,r2):=(by first|(rw [oO] at H;exact H)|(simp only [oO] at H ⊢;exact H));have aqR:(a0 / 2 ^ min a2.toNat 64)=ji9:=oO;have aCk:a2<=64->(a0 / 2 ^ a2.toNat)=ji9:=rJ oO;have l9:=eq_true (of_decide_eq_true (by first|(with_reducible assumption)|assumption):0<=a2);obtain ⟨afT,abQ⟩:∃ j_:Int,(shr .u64 a1 a2)=j_:=⟨_,rfl⟩;replace H:(if 0<=(wrap64 (64 - a2)) then (some (ji9,Go.bits .or .u64 (afT) (shl .u64 a0 (wrap64 (64 - a2))))) else (none))=some (r1,r2):=(by first|(rw [abQ] at H;exact H)|(simp only [abQ] at H ⊢;exact H));have azJ:(a1 / 2 ^ min a2.toNat 64)=afT:=abQ;have azK:a2<=64->(a1 / 2 ^ a2.toNat)=afT:=rJ abQ;obtain ⟨jZ,qQ⟩:∃ j_:Int,(wrap64 (64 - a2))=j_:=⟨_,rfl⟩;replace H:(if 0<=(jZ) then (some (ji9,Go.bits .or .u64 (afT) (shl .u64 a0 (jZ)))) else (none))=some (r1,r2):=(by first|(rw [qQ] at H;exact H)|(simp only [qQ] at H ⊢;exact H));have aFZ:(IntKind.i64.wrap (64 - a2))=jZ:=(bP _).trans qQ;by_cases c13:0<=(jZ)
   ·rw [if_pos c13] at H;have aaf:=eq_true c13;have akF:=decide_eq_true c13;clear c13;obtain ⟨avK,akG⟩:∃ j_:Int,(shl .u64 a0 (jZ))=j_:=⟨_,rfl⟩;replace H:(some (ji9,Go.bits .or .u64 (afT) (avK)))=some (r1,r2):=(by first|(rw [akG] at H;exact H)|(simp only [akG] at H ⊢;exact H));have aF0:(IntKind.u64.wrap (a0*2 ^ min (jZ).toNat 64))=avK:=akG;have aF1:(jZ)<=64->(IntKind.u64.wrap (a0*2 ^ (jZ).toNat))=avK:=aaZ akG;simp only [Option.some.injEq,Prod.mk.injEq] at H;obtain ⟨rfl,rfl⟩:=H;go_enter Tryz.func188,Tryz.ntmps188;go_wp2;repeat (go_quiet (fail);try go_wp2)
    go_ret2;exact ⟨by first|rfl|(simp;done)|(simp only [<- oO,<- abQ,<- qQ,<- akG] <;> (first|rfl|simp))|(simp [*];done),zW⟩
   ·rw [if_neg c13] at H;exact absurd H (by simp)
  ·rw [if_neg c8] at H;exact absurd H (by simp)
def uN.f (a0 a1 a2:Int):Option (Bool):=if a2>=64 then (if a1=0 then (if 0<=(wrap64 (128 - a2)) then (some ((shl .u64 a0 (wrap64 (128 - a2))) == 0)) else (none)) else (some false)) else (if 0<=(wrap64 (64 - a2)) then (some ((shl .u64 a1 (wrap64 (64 - a2))) == 0)) else (none))
theorem uN.calls (a0 a1 a2:Int) (r:Bool) (w:World) (h:uN.f a0 a1 a2=some r) :
  Calls Tryz.prog 189 #[.int .u64 a0,.int .u64 a1,.int .i64 a2] w fun e w'=>e = .returned (.bool r)/\dA w w':=by
 have H:=h;clear h;unfold uN.f at H;by_cases c4:a2>=64
 ·rw [if_pos c4] at H;have fH:=decide_eq_true c4;clear c4;by_cases c5:a1=0
  ·rw [if_pos c5] at H;have gJ:(a1 == 0)=true:=beq_iff_eq.mpr c5;have ab8:(a1 != 0)=false:=bne_eq_false_iff_eq.mpr c5;clear c5;obtain ⟨ji6,vW⟩:∃ j_:Int,(wrap64 (128 - a2))=j_:=⟨_,rfl⟩;replace H:(if 0<=(ji6) then (some ((shl .u64 a0 (ji6)) == 0)) else (none))=some r:=(by first|(rw [vW] at H;exact H)|(simp only [vW] at H ⊢;exact H));have aIm:(IntKind.i64.wrap (128 - a2))=ji6:=(bP _).trans vW;by_cases c7:0<=(ji6)
   ·rw [if_pos c7] at H;have jw:=eq_true c7;have abY:=decide_eq_true c7;clear c7;obtain ⟨ji8,sJ⟩:∃ j_:Int,(shl .u64 a0 (ji6))=j_:=⟨_,rfl⟩;replace H:(some ((ji8) == 0))=some r:=(by first|(rw [sJ] at H;exact H)|(simp only [sJ] at H ⊢;exact H));have axu:(IntKind.u64.wrap (a0*2 ^ min (ji6).toNat 64))=ji8:=sJ;have aIn:(ji6)<=64->(IntKind.u64.wrap (a0*2 ^ (ji6).toNat))=ji8:=aaZ sJ;obtain rfl:=Option.some.inj H;go_enter Tryz.func189,Tryz.ntmps189;go_wp2;go_ret;exact ⟨by first|rfl|(simp;done)|(simp only [<- vW,<- sJ] <;> (first|rfl|simp))|(simp [*];done),zW⟩
   ·rw [if_neg c7] at H;exact absurd H (by simp)
  ·rw [if_neg c5] at H;have gJ:(a1 == 0)=false:=beq_eq_false_iff_ne.mpr c5;have ab8:(a1 != 0)=true:=bne_iff_ne.mpr c5;obtain rfl:=Option.some.inj H;go_enter Tryz.func189,Tryz.ntmps189;go_wp2;go_ret;exact ⟨zT,zW⟩
 ·rw [if_neg c4] at H;have fH:=decide_eq_false c4;clear c4;obtain ⟨ji9,oO⟩:∃ j_:Int,(wrap64 (64 - a2))=j_:=⟨_,rfl⟩;replace H:(if 0<=(ji9) then (some ((shl .u64 a1 (ji9)) == 0)) else (none))=some r:=(by first|(rw [oO] at H;exact H)|(simp only [oO] at H ⊢;exact H));have aIo:(IntKind.i64.wrap (64 - a2))=ji9:=(bP _).trans oO;by_cases c10:0<=(ji9)
  ·rw [if_pos c10] at H;have l9:=eq_true c10;have aj0:=decide_eq_true c10;clear c10;obtain ⟨afT,abQ⟩:∃ j_:Int,(shl .u64 a1 (ji9))=j_:=⟨_,rfl⟩;replace H:(some ((afT) == 0))=some r:=(by first|(rw [abQ] at H;exact H)|(simp only [abQ] at H ⊢;exact H));have azJ:(IntKind.u64.wrap (a1*2 ^ min (ji9).toNat 64))=afT:=abQ;have azK:(ji9)<=64->(IntKind.u64.wrap (a1*2 ^ (ji9).toNat))=afT:=aaZ abQ;obtain rfl:=Option.some.inj H;go_enter Tryz.func189,Tryz.ntmps189;go_wp2;go_ret;exact ⟨by first|rfl|(simp;done)|(simp only [<- oO,<- abQ] <;> (first|rfl|simp))|(simp [*];done),zW⟩
  ·rw [if_neg c10] at H;exact absurd H (by simp)
def dM.j0:Nat->Bool->Int->Int->Bool->Option (Int)
 | 0,_,_,_,_=>none
 | k+1,x9,x10,x11,x59=>if x59=true then ((dG.f k x10 x11 x9).bind fun avL=>(some avL)) else ((dG.f k (IntKind.u64.wrap (x10+(rO x11 1 0))) (rM x11 1 0) x9).bind fun avM=>(some avM))
def dM.f (k:Nat) (a0 a1 a2:Int):Option (Int):=if (mx 0 a2)>=128 then (some 0) else ((lQ.f a0 a1).bind fun nZ=>(if (mx 0 a2)=0 then ((dG.f k nZ.1 nZ.2.1 nZ.2.2).bind fun ao5=>(some ao5)) else ((qy.f nZ.1 nZ.2.1 (mx 0 a2)).bind fun aao=>((qy.f nZ.1 nZ.2.1 (wrap64 ((mx 0 a2) - 1))).bind fun asa=>(if (Go.bits .and .u64 asa.2 1)=0 then (dM.j0 k nZ.2.2 aao.1 aao.2 true) else (if nZ.2.2=true then ((uN.f nZ.1 nZ.2.1 (wrap64 ((mx 0 a2) - 1))).bind fun alV=>(dM.j0 k nZ.2.2 aao.1 aao.2 alV)) else (dM.j0 k nZ.2.2 aao.1 aao.2 false)))))))
theorem dM.jH:∀ k,(∀ y0 y1 y2 y3,LeO (dM.j0 k y0 y1 y2 y3) (dM.j0 (k+1) y0 y1 y2 y3))
 | 0=>fun _ _ _ _ r h=>by simp [dM.j0] at h
 | k+1=>by
  have ih0:=dM.jH k
  ·intro y0 y1 y2 y3;unfold dM.j0;repeat' (with_reducible first|exact ih0 _ _ _ _|exact dG.mono _ _ _ _|exact zM|refine LeO.ite ?_ ?_|refine LeO.bind ?_ (fun _ => ?_))
theorem dM.mono:∀ a0 a1 a2 k,LeO (dM.f k a0 a1 a2) (dM.f (k+1) a0 a1 a2):=by
 intro a0 a1 a2 k;have ih0:=dM.jH k;unfold dM.f;repeat' (with_reducible first|exact ih0 _ _ _ _|exact dG.mono _ _ _ _|exact zM|refine LeO.ite ?_ ?_|refine LeO.bind ?_ (fun _ => ?_))
theorem dM.calls (k:Nat) (a0 a1 a2 r:Int) (w:World) (h:dM.f k a0 a1 a2=some r) :
  Calls Tryz.prog 176 #[.int .i64 a0,.int .i64 a1,.int .i64 a2] w fun e w'=>e = .returned (.int .i64 r)/\Below w.heap.size w w':=by
 have HB:=aj.mk (Below.refl w.heap.size w);have H:=h;clear h;unfold dM.f at H;obtain ⟨ji4,qY⟩:∃ j_:Int,(mx 0 a2)=j_:=⟨_,rfl⟩;replace H:(if (ji4)>=128 then (some 0) else ((lQ.f a0 a1).bind fun nZ=>(if (ji4)=0 then ((dG.f k nZ.1 nZ.2.1 nZ.2.2).bind fun ao5=>(some ao5)) else ((qy.f nZ.1 nZ.2.1 (ji4)).bind fun aao=>((qy.f nZ.1 nZ.2.1 (wrap64 ((ji4) - 1))).bind fun asa=>(if (Go.bits .and .u64 asa.2 1)=0 then (dM.j0 k nZ.2.2 aao.1 aao.2 true) else (if nZ.2.2=true then ((uN.f nZ.1 nZ.2.1 (wrap64 ((ji4) - 1))).bind fun alV=>(dM.j0 k nZ.2.2 aao.1 aao.2 alV)) else (dM.j0 k nZ.2.2 aao.1 aao.2 false))))))))=some r:=by first|(rw [qY] at H;exact H)|(simp only [qY] at H ⊢;exact H)
 (try (have axv:0<=ji4:=by (rw [<- qY];unfold mx;(repeat' split) <;> omega)))
 (try (have aIp:0<=ji4:=by omega))
 have axw:(if 0 < a2 then a2 else 0)=ji4:=qY;by_cases c5:(ji4)>=128
 ·rw [if_pos c5] at H;have gJ:=decide_eq_true c5;clear c5;obtain rfl:=Option.some.inj H;go_enter Tryz.func176,Tryz.ntmps176;go_wp2;go_ret;exact ⟨by first|rfl|(simp [bJ,bK] <;> rfl)|(simp only [<- qY];first|rfl|(simp [bJ,bK] <;> rfl))|(simp [*,bJ,bK] <;> rfl),zB⟩
 ·rw [if_neg c5] at H;have gJ:=decide_eq_false c5;clear c5;replace H:=zO H;obtain ⟨⟨t141,afU,t143⟩,A6,H⟩:=H;try dsimp only at H
  by_cases c7:(ji4)=0
  ·rw [if_pos c7] at H;have jw:((ji4) == 0)=true:=beq_iff_eq.mpr c7;have abY:((ji4) != 0)=false:=bne_eq_false_iff_eq.mpr c7;clear c7;replace H:=zO H;obtain ⟨ao5,A8,H⟩:=H;try dsimp only at H
   obtain rfl:=Option.some.inj H;go_enter Tryz.func176,Tryz.ntmps176;go_wp2_with (first|((with_reducible refine ay (f:=154) rfl ?_);refine aH (some 22) rfl rfl Tryz.func154 (by kernel_rfl) rfl #[.int .i64 a0,.int .i64 a1] rfl zL ?_;(with_reducible refine (lQ.calls a0 a1 t141 afU t143 _ A6.out).mono ?_);rintro e w' ⟨rfl,⟨nd,rfl⟩⟩;refine ⟨_,rfl,?_⟩)|((with_reducible refine ay (f:=156) rfl ?_);refine aH (some 31) rfl rfl Tryz.func156 (by kernel_rfl) rfl #[.int .u64 t141,.int .u64 afU,.bool t143] rfl zL ?_;(with_reducible refine (dG.calls k t141 afU t143 ao5 _ A8.out).mono ?_);rintro e w' ⟨rfl,⟨nd,rfl⟩⟩;refine ⟨_,rfl,?_⟩));go_ret;exact ⟨by first|rfl|(simp [bJ,bK] <;> rfl)|(simp only [<- qY];first|rfl|(simp [bJ,bK] <;> rfl))|(simp [*,bJ,bK] <;> rfl),zB⟩
  ·rw [if_neg c7] at H;have jw:((ji4) == 0)=false:=beq_eq_false_iff_ne.mpr c7;have abY:((ji4) != 0)=true:=bne_iff_ne.mpr c7;replace H:=zO H;obtain ⟨⟨t145,t146⟩,A9,H⟩:=H;try dsimp only at H
   replace H:=zO H;obtain ⟨⟨aDL,t148⟩,A10,H⟩:=H;try dsimp only at H
   have avN:=aj.mk H;clear H;go_enter Tryz.func176,Tryz.ntmps176;go_upto_region 9 with (first|((with_reducible refine ay (f:=154) rfl ?_);refine aH (some 22) rfl rfl Tryz.func154 (by kernel_rfl) rfl #[.int .i64 a0,.int .i64 a1] rfl zL ?_;(with_reducible refine (lQ.calls a0 a1 t141 afU t143 _ A6.out).mono ?_);rintro e w' ⟨rfl,⟨nd,rfl⟩⟩;refine ⟨_,rfl,?_⟩)|((with_reducible refine ay (f:=188) rfl ?_);refine aH (some 36) rfl rfl Tryz.func188 (by kernel_rfl) rfl #[.int .u64 t141,.int .u64 afU,.int .i64 ji4] rfl (by (try simp only [List.map_toArray,List.map_cons,List.map_nil]);first|done|(simp only [qY];rfl)|(simp only [Int.tdiv_eq_ediv_of_nonneg axv];rfl)|rfl|(simp only [List.length_drop,List.length_take];rfl)) ?_;(with_reducible refine (qy.calls t141 afU ji4 t145 t146 _ A9.out).mono ?_);rintro e w' ⟨rfl,⟨nd,rfl⟩⟩;refine ⟨_,rfl,?_⟩)|((with_reducible refine ay (f:=188) rfl ?_);refine aH (some 44) rfl rfl Tryz.func188 (by kernel_rfl) rfl #[.int .u64 t141,.int .u64 afU,.int .i64 (wrap64 ((ji4) - 1))] rfl (by (try simp only [List.map_toArray,List.map_cons,List.map_nil]);first|done|(simp only [qY];rfl)|(simp only [Int.tdiv_eq_ediv_of_nonneg axv];rfl)|rfl|(simp only [List.length_drop,List.length_take];rfl)) ?_;(with_reducible refine (qy.calls t141 afU (wrap64 ((ji4) - 1)) aDL t148 _ A10.out).mono ?_);rintro e w' ⟨rfl,⟨nd,rfl⟩⟩;refine ⟨_,rfl,?_⟩))
   (try simp only [Act.put,List.setIfInBounds_toArray,List.set_cons_zero,List.set_cons_succ])
   go_cut [59] (fun v59 wc=>∃ (kq:Nat) (akH:Bool),v59 = .bool akH/\aj (dM.j0 kq t143 t145 t146 akH=some r)/\aj (kq<=k)/\aj (Below w.heap.size w wc))
   case first =>
    have H:=avN.out;clear avN;by_cases c12:(Go.bits .and .u64 t148 1)=0
    ·rw [if_pos c12] at H;have yU:((Go.bits .and .u64 t148 1) == 0)=true:=beq_iff_eq.mpr c12;have anu:((Go.bits .and .u64 t148 1) != 0)=false:=bne_eq_false_iff_eq.mpr c12;clear c12
     (first|rw [yU]|(simp only [bP,bU];rw [yU])|skip)
     have H':=aj.mk H;clear H;go_wp2;go_meet
     case rel=>exact ⟨_,(true),zT,H',⟨by first|omega|exact Nat.le_refl _⟩,⟨zB⟩⟩
    ·rw [if_neg c12] at H;have yU:((Go.bits .and .u64 t148 1) == 0)=false:=beq_eq_false_iff_ne.mpr c12;have anu:((Go.bits .and .u64 t148 1) != 0)=true:=bne_iff_ne.mpr c12
     (first|rw [yU]|(simp only [bP,bU];rw [yU])|skip)
     by_cases c13:t143=true
     ·subst c13;rw [if_pos rfl] at H;(try dsimp only at H);replace H:=zO H;obtain ⟨alV,A14,H⟩:=H;try dsimp only at H
      have H':=aj.mk H;clear H;go_wp2_with (first|(go_at_call 189;(with_reducible refine (uN.calls t141 afU (wrap64 ((ji4) - 1)) alV _ A14.out).mono ?_);rintro e w' ⟨rfl,⟨nd,rfl⟩⟩));go_meet
      case rel=>exact ⟨_,(alV),zT,H',⟨by first|omega|exact Nat.le_refl _⟩,⟨zB⟩⟩
     ·replace c13:=Bool.eq_false_iff.mpr c13;subst c13;rw [if_neg (show ¬ (false=true) by decide)] at H;(try dsimp only at H);have H':=aj.mk H;clear H;go_wp2;go_meet
      case rel=>exact ⟨_,(false),zT,H',⟨by first|omega|exact Nat.le_refl _⟩,⟨zB⟩⟩
   case rest =>
    clear avN;obtain ⟨kq,akH,rfl,HA,aJb,HB⟩:=hcut;cases kq with
    | zero=>exact absurd HA.out (by simp [dM.j0])
    | succ azL =>
     have H:=HA.out;clear HA;simp only [dM.j0] at H;by_cases c15:akH=true
     ·subst c15;rw [if_pos rfl] at H;(try dsimp only at H);replace H:=zO H;obtain ⟨avL,A16,H⟩:=H;try dsimp only at H
      obtain rfl:=Option.some.inj H;go_wp2_with (first|((with_reducible refine ay (f:=156) rfl ?_);refine aH (some 63) rfl rfl Tryz.func156 (by kernel_rfl) rfl #[.int .u64 t145,.int .u64 t146,.bool t143] rfl zL ?_;(with_reducible refine (dG.calls azL t145 t146 t143 avL _ A16.out).mono ?_);rintro e w' ⟨rfl,⟨nd,rfl⟩⟩;refine ⟨_,rfl,?_⟩));go_ret;exact ⟨by first|rfl|(simp [bJ,bK] <;> rfl)|(simp only [<- qY];first|rfl|(simp [bJ,bK] <;> rfl))|(simp [*,bJ,bK] <;> rfl),zB⟩
     ·replace c15:=Bool.eq_false_iff.mpr c15;subst c15;rw [if_neg (show ¬ (false=true) by decide)] at H;(try dsimp only at H);replace H:=zO H;obtain ⟨avM,A17,H⟩:=H;try dsimp only at H
      obtain rfl:=Option.some.inj H;go_wp2_with (first|((with_reducible refine ay (f:=156) rfl ?_);refine aH (some 74) rfl rfl Tryz.func156 (by kernel_rfl) rfl #[.int .u64 (IntKind.u64.wrap (t145+(rO t146 1 0))),.int .u64 (rM t146 1 0),.bool t143] rfl zL ?_;(with_reducible refine (dG.calls azL (IntKind.u64.wrap (t145+(rO t146 1 0))) (rM t146 1 0) t143 avM _ A17.out).mono ?_);rintro e w' ⟨rfl,⟨nd,rfl⟩⟩;refine ⟨_,rfl,?_⟩));go_ret;exact ⟨by first|rfl|(simp [bJ,bK] <;> rfl)|(simp only [<- qY];first|rfl|(simp [bJ,bK] <;> rfl))|(simp [*,bJ,bK] <;> rfl),zB⟩
def fJ.l0:Nat->Int->Int->Int->Int->Int->Option (Int)
 | 0,_,_,_,_,_=>none
 | k+1,x5,x6,x7,x8,x9=>if x9<=30 then ((bG.f k x7 x5 (wrap64 ((wrap64 ((wrap64 (2*x9))*(wrap64 ((wrap64 (2*x9))+1))))*1099511627776))).bind fun alW=>(fJ.l0 k x5 (wrap64 (x6+(wrap64 ((wrap64 (-x8))*alW)))) alW (wrap64 (-x8)) (wrap64 (x9+1)))) else (some x6)
def fJ.f (k:Nat) (a0 a1:Int):Option (Int):=(uO.f a0).bind fun t152=>((bG.f k 10851744800547 t152 a1).bind fun ao6=>((bG.f k ao6 t152 a1).bind fun t154=>(fJ.l0 k t154 1099511627776 1099511627776 1 1)))
theorem fJ.jH:∀ k,(∀ y0 y1 y2 y3 y4,LeO (fJ.l0 k y0 y1 y2 y3 y4) (fJ.l0 (k+1) y0 y1 y2 y3 y4))
 | 0=>fun _ _ _ _ _ r h=>by simp [fJ.l0] at h
 | k+1=>by
  have ih0:=fJ.jH k
  ·intro y0 y1 y2 y3 y4;unfold fJ.l0;repeat' (with_reducible first|exact ih0 _ _ _ _ _|exact bG.mono _ _ _ _|exact zM|refine LeO.ite ?_ ?_|refine LeO.bind ?_ (fun _ => ?_))
theorem fJ.mono:∀ a0 a1 k,LeO (fJ.f k a0 a1) (fJ.f (k+1) a0 a1):=by
 intro a0 a1 k;have ih0:=fJ.jH k;unfold fJ.f;repeat' (with_reducible first|exact ih0 _ _ _ _ _|exact bG.mono _ _ _ _|exact zM|refine LeO.ite ?_ ?_|refine LeO.bind ?_ (fun _ => ?_))
theorem fJ.calls (k:Nat) (a0 a1 r:Int) (w:World) (h:fJ.f k a0 a1=some r) :
  Calls Tryz.prog 177 #[.int .i64 a0,.int .i64 a1] w fun e w'=>e = .returned (.int .i64 r)/\Below w.heap.size w w':=by
 have HB:=aj.mk (Below.refl w.heap.size w);have H:=h;clear h;unfold fJ.f at H;replace H:=zO H;obtain ⟨t152,A3,H⟩:=H;try dsimp only at H
 replace H:=zO H;obtain ⟨ao6,A4,H⟩:=H;try dsimp only at H
 replace H:=zO H;obtain ⟨t154,A5,H⟩:=H;try dsimp only at H
 have H':=aj.mk H;clear H;go_enter Tryz.func177,Tryz.ntmps177;go_wp2_with (first|((with_reducible refine ay (f:=175) rfl ?_);refine aH (some 11) rfl rfl Tryz.func175 (by kernel_rfl) rfl #[.int .i64 a0] rfl zL ?_;(with_reducible refine (uO.calls a0 t152 _ A3.out).mono ?_);rintro e w6 ⟨rfl,hb⟩;refine ⟨_,rfl,?_⟩;replace HB:=aj.mk (ak zB hb);(try clear hb))|((with_reducible refine ay (f:=130) rfl ?_);refine aH (some 14) rfl rfl Tryz.func130 (by kernel_rfl) rfl #[.int .i64 10851744800547,.int .i64 t152,.int .i64 a1] rfl zL ?_;(with_reducible refine (bG.calls k 10851744800547 t152 a1 ao6 _ A4.out).mono ?_);rintro e w' ⟨rfl,⟨nd,rfl⟩⟩;refine ⟨_,rfl,?_⟩)|((with_reducible refine ay (f:=130) rfl ?_);refine aH (some 17) rfl rfl Tryz.func130 (by kernel_rfl) rfl #[.int .i64 ao6,.int .i64 t152,.int .i64 a1] rfl zL ?_;(with_reducible refine (bG.calls k ao6 t152 a1 t154 _ A5.out).mono ?_);rintro e w' ⟨rfl,⟨nd,rfl⟩⟩;refine ⟨_,rfl,?_⟩));go_loopg [6,7,8,9] k (fun kq v6 v7 v8 v9 w'=>∃ (rQ:Int) (ao7:Int) (iT:Int) (vY:Int),v6 = .int .i64 rQ/\v7 = .int .i64 ao7/\v8 = .int .i64 iT/\v9 = .int .i64 vY/\aj (fJ.l0 kq t154 rQ ao7 iT vY=some r)/\aj (kq<=k)/\aj (Below w.heap.size w w'))
 case atStart=>exact ⟨(1099511627776),(1099511627776),(1),(1),zT,zT,zT,zT,H',⟨Nat.le_refl _⟩,⟨zB⟩⟩
 case round =>
  clear H';obtain ⟨rQ,ao7,iT,vY,rfl,rfl,rfl,rfl,HA,HK1,HB⟩:=hrel;cases gk with
  | zero=>exact absurd HA.out (by simp [fJ.l0])
  | succ k1 =>
   have H:=HA.out;clear HA;simp only [fJ.l0] at H;by_cases c7:vY<=30
   ·rw [if_pos c7] at H;have jw:=decide_eq_true c7;clear c7;replace H:=zO H;obtain ⟨alW,A8,H⟩:=H;try dsimp only at H
    have H':=aj.mk H;clear H;go_wp2_with (first|((with_reducible refine ay (f:=130) rfl ?_);refine aH (some 33) rfl rfl Tryz.func130 (by kernel_rfl) rfl #[.int .i64 ao7,.int .i64 t154,.int .i64 (wrap64 ((wrap64 ((wrap64 (2*vY))*(wrap64 ((wrap64 (2*vY))+1))))*1099511627776))] rfl zL ?_;(with_reducible refine (bG.calls k1 ao7 t154 (wrap64 ((wrap64 ((wrap64 (2*vY))*(wrap64 ((wrap64 (2*vY))+1))))*1099511627776)) alW _ A8.out).mono ?_);rintro e w' ⟨rfl,⟨nd,rfl⟩⟩;refine ⟨_,rfl,?_⟩));go_roundg k1
    case measure=>have:=HK1.out;omega
    case rel=>exact ⟨(wrap64 (rQ+(wrap64 ((wrap64 (-iT))*alW)))),(alW),(wrap64 (-iT)),(wrap64 (vY+1)),zT,zT,zT,zT,H',⟨by have:=HK1.out;omega⟩,⟨zB⟩⟩
   ·rw [if_neg c7] at H;have jw:=decide_eq_false c7;clear c7;obtain rfl:=Option.some.inj H;go_wp2;go_ret;exact ⟨zS,zB⟩
def fK.j0:Nat->Int->Int->Bool->Option (Int)
 | 0,_,_,_=>none
 | k+1,x0,x1,x15=>if x15=true then (some 0) else ((fJ.f k x0 x1).bind fun ao8=>((fJ.f k x0 (wrap64 (3*x1))).bind fun t159=>((dM.f k ao8 t159 40).bind fun t160=>((mD.f t160 10).bind fun avO=>(some avO)))))
def fK.f (k:Nat) (a0 a1:Int):Option (Int):=(yY.f a0 a1).bind fun t156=>(if t156=true then ((uO.f a0).bind fun t157=>(fK.j0 k a0 a1 (decide (t157>=(wrap64 (3*a1)))))) else (fK.j0 k a0 a1 true))
theorem fK.jH:∀ k,(∀ y0 y1 y2,LeO (fK.j0 k y0 y1 y2) (fK.j0 (k+1) y0 y1 y2))
 | 0=>fun _ _ _ r h=>by simp [fK.j0] at h
 | k+1=>by
  have ih0:=fK.jH k
  ·intro y0 y1 y2;unfold fK.j0;repeat' (with_reducible first|exact ih0 _ _ _|exact fJ.mono _ _ _|exact dM.mono _ _ _ _|exact zM|refine LeO.ite ?_ ?_|refine LeO.bind ?_ (fun _ => ?_))
theorem fK.mono:∀ a0 a1 k,LeO (fK.f k a0 a1) (fK.f (k+1) a0 a1):=by
 intro a0 a1 k;have ih0:=fK.jH k;unfold fK.f;repeat' (with_reducible first|exact ih0 _ _ _|exact fJ.mono _ _ _|exact dM.mono _ _ _ _|exact zM|refine LeO.ite ?_ ?_|refine LeO.bind ?_ (fun _ => ?_))
theorem fK.calls (k:Nat) (a0 a1 r:Int) (w:World) (h:fK.f k a0 a1=some r) :
  Calls Tryz.prog 153 #[.int .i64 a0,.int .i64 a1] w fun e w'=>e = .returned (.int .i64 r)/\Below w.heap.size w w':=by
 have HB:=aj.mk (Below.refl w.heap.size w);have H:=h;clear h;unfold fK.f at H;have HC3:=aj.mk H;clear H;go_enter Tryz.func153,Tryz.ntmps153;go_upto_region 1 with (fail);go_cut [15] (fun v15 wc=>∃ (kq:Nat) (acy:Bool),v15 = .bool acy/\aj (fK.j0 kq a0 a1 acy=some r)/\aj (kq<=k)/\aj (Below w.heap.size w wc))
 case first =>
  have H:=HC3.out;clear HC3;replace H:=zO H;obtain ⟨t156,A4,H⟩:=H;try dsimp only at H
  by_cases c5:t156=true
  ·subst c5;rw [if_pos rfl] at H;(try dsimp only at H);replace H:=zO H;obtain ⟨t157,A6,H⟩:=H;try dsimp only at H
   have H':=aj.mk H;clear H;go_wp2_with (first|((with_reducible refine ay (f:=174) rfl ?_);refine aH (some 7) rfl rfl Tryz.func174 (by kernel_rfl) rfl #[.int .i64 a0,.int .i64 a1] rfl zL ?_;(with_reducible refine (yY.calls a0 a1 true _ A4.out).mono ?_);rintro e w' ⟨rfl,⟨nd,rfl⟩⟩;refine ⟨_,rfl,?_⟩)|(go_at_call 175;(with_reducible refine (uO.calls a0 t157 _ A6.out).mono ?_);rintro e w7 ⟨rfl,hb⟩;replace HB:=aj.mk (ak zB hb);(try clear hb)));go_meet
   case rel=>exact ⟨_,(decide (t157>=(wrap64 (3*a1)))),zT,H',⟨by first|omega|exact Nat.le_refl _⟩,⟨zB⟩⟩
  ·replace c5:=Bool.eq_false_iff.mpr c5;subst c5;rw [if_neg (show ¬ (false=true) by decide)] at H;(try dsimp only at H);have H':=aj.mk H;clear H;go_wp2_with (first|((with_reducible refine ay (f:=174) rfl ?_);refine aH (some 7) rfl rfl Tryz.func174 (by kernel_rfl) rfl #[.int .i64 a0,.int .i64 a1] rfl zL ?_;(with_reducible refine (yY.calls a0 a1 false _ A4.out).mono ?_);rintro e w' ⟨rfl,⟨nd,rfl⟩⟩;refine ⟨_,rfl,?_⟩));go_meet
   case rel=>exact ⟨_,(true),zT,H',⟨by first|omega|exact Nat.le_refl _⟩,⟨zB⟩⟩
 case rest =>
  clear HC3;obtain ⟨kq,acy,rfl,HA,HJ2,HB⟩:=hcut;cases kq with
  | zero=>exact absurd HA.out (by simp [fK.j0])
  | succ kj2 =>
   have H:=HA.out;clear HA;simp only [fK.j0] at H;by_cases c8:acy=true
   ·subst c8;rw [if_pos rfl] at H;(try dsimp only at H);obtain rfl:=Option.some.inj H;go_wp2;go_ret;exact ⟨zS,zB⟩
   ·replace c8:=Bool.eq_false_iff.mpr c8;subst c8;rw [if_neg (show ¬ (false=true) by decide)] at H;(try dsimp only at H);replace H:=zO H;obtain ⟨ao8,A9,H⟩:=H;try dsimp only at H
    replace H:=zO H;obtain ⟨t159,A10,H⟩:=H;try dsimp only at H
    replace H:=zO H;obtain ⟨t160,A11,H⟩:=H;try dsimp only at H
    replace H:=zO H;obtain ⟨avO,A12,H⟩:=H;try dsimp only at H
    obtain rfl:=Option.some.inj H;go_wp2_with (first|((with_reducible refine ay (f:=177) rfl ?_);refine aH (some 18) rfl rfl Tryz.func177 (by kernel_rfl) rfl #[.int .i64 a0,.int .i64 a1] rfl zL ?_;(with_reducible refine (fJ.calls kj2 a0 a1 ao8 _ A9.out).mono ?_);rintro e w13 ⟨rfl,hb⟩;refine ⟨_,rfl,?_⟩;replace HB:=aj.mk (ak zB hb);(try clear hb))|((with_reducible refine ay (f:=177) rfl ?_);refine aH (some 22) rfl rfl Tryz.func177 (by kernel_rfl) rfl #[.int .i64 a0,.int .i64 (wrap64 (3*a1))] rfl zL ?_;(with_reducible refine (fJ.calls kj2 a0 (wrap64 (3*a1)) t159 _ A10.out).mono ?_);rintro e w14 ⟨rfl,hb⟩;refine ⟨_,rfl,?_⟩;replace HB:=aj.mk (ak zB hb);(try clear hb))|((with_reducible refine ay (f:=176) rfl ?_);refine aH (some 23) rfl rfl Tryz.func176 (by kernel_rfl) rfl #[.int .i64 ao8,.int .i64 t159,.int .i64 40] rfl zL ?_;(with_reducible refine (dM.calls kj2 ao8 t159 40 t160 _ A11.out).mono ?_);rintro e w15 ⟨rfl,hb⟩;refine ⟨_,rfl,?_⟩;replace HB:=aj.mk (ak zB hb);(try clear hb))|((with_reducible refine ay (f:=100) rfl ?_);refine aH (some 24) rfl rfl Tryz.func100 (by kernel_rfl) rfl #[.int .i64 t160,.int .i64 10] rfl zL ?_;(with_reducible refine (mD.calls t160 10 avO _ A12.out).mono ?_);rintro e w' ⟨rfl,⟨nd,rfl⟩⟩;refine ⟨_,rfl,?_⟩));go_ret;exact ⟨zS,zB⟩
def pJ.f (k:Nat) (a0 a1 a2 a3 a4:Int):Option (Int):=if a0=0 then ((bG.f k (wrap64 ((mn (wrap64 ((wrap64 (a3+1))*a1)) (wrap64 ((wrap64 (a4+1))*a2))) - (mx (wrap64 (a3*a1)) (wrap64 (a4*a2))))) 1073741824 a1).bind fun t162=>(some t162)) else (if a0=1 then ((gK.f k (wrap64 ((wrap64 ((wrap64 ((wrap64 (2*a2))*a4)) - (wrap64 ((wrap64 ((wrap64 (2*a3))+1))*a1))))+a2)) (wrap64 (2*(mx a1 a2)))).bind fun ao9=>(some ao9)) else ((fK.f k (wrap64 ((wrap64 ((wrap64 ((wrap64 (2*a2))*a4)) - (wrap64 ((wrap64 ((wrap64 (2*a3))+1))*a1))))+a2)) (wrap64 (2*(mx a1 a2)))).bind fun t164=>(some t164)))
theorem pJ.mono:∀ a0 a1 a2 a3 a4 k,LeO (pJ.f k a0 a1 a2 a3 a4) (pJ.f (k+1) a0 a1 a2 a3 a4):=by
 intro a0 a1 a2 a3 a4 k;unfold pJ.f;repeat' (with_reducible first|exact gK.mono _ _ _|exact fK.mono _ _ _|exact bG.mono _ _ _ _|exact zM|refine LeO.ite ?_ ?_|refine LeO.bind ?_ (fun _ => ?_))
theorem pJ.calls (k:Nat) (a0 a1 a2 a3 a4 r:Int) (w:World) (h:pJ.f k a0 a1 a2 a3 a4=some r) :
  Calls Tryz.prog 129 #[.int .i64 a0,.int .i64 a1,.int .i64 a2,.int .i64 a3,.int .i64 a4] w fun e w'=>e = .returned (.int .i64 r)/\Below w.heap.size w w':=by
 have HB:=aj.mk (Below.refl w.heap.size w);have H:=h;clear h;unfold pJ.f at H;by_cases c6:a0=0
 ·rw [if_pos c6] at H;have gI:(a0 == 0)=true:=beq_iff_eq.mpr c6;have vU:(a0 != 0)=false:=bne_eq_false_iff_eq.mpr c6;clear c6;obtain ⟨ji7,uF⟩:∃ j_:Int,(mn (wrap64 ((wrap64 (a3+1))*a1)) (wrap64 ((wrap64 (a4+1))*a2)))=j_:=⟨_,rfl⟩;replace H:((bG.f k (wrap64 ((ji7) - (mx (wrap64 (a3*a1)) (wrap64 (a4*a2))))) 1073741824 a1).bind fun t162=>(some t162))=some r:=(by first|(rw [uF] at H;exact H)|(simp only [uF] at H ⊢;exact H));have aCm:(if (wrap64 ((wrap64 (a4+1))*a2)) < (wrap64 ((wrap64 (a3+1))*a1)) then (wrap64 ((wrap64 (a4+1))*a2)) else (wrap64 ((wrap64 (a3+1))*a1)))=ji7:=uF;obtain ⟨ji8,sJ⟩:∃ j_:Int,(mx (wrap64 (a3*a1)) (wrap64 (a4*a2)))=j_:=⟨_,rfl⟩;replace H:((bG.f k (wrap64 ((ji7) - (ji8))) 1073741824 a1).bind fun t162=>(some t162))=some r:=(by first|(rw [sJ] at H;exact H)|(simp only [sJ] at H ⊢;exact H));have axu:(if (wrap64 (a3*a1)) < (wrap64 (a4*a2)) then (wrap64 (a4*a2)) else (wrap64 (a3*a1)))=ji8:=sJ;replace H:=zO H;obtain ⟨t162,A9,H⟩:=H;try dsimp only at H
  obtain rfl:=Option.some.inj H;go_enter Tryz.func129,Tryz.ntmps129;go_wp2_with (first|((with_reducible refine ay (f:=130) rfl ?_);refine aH (some 35) rfl rfl Tryz.func130 (by kernel_rfl) rfl #[.int .i64 (wrap64 ((ji7) - (ji8))),.int .i64 1073741824,.int .i64 a1] rfl (by (try simp only [List.map_toArray,List.map_cons,List.map_nil]);first|done|(simp only [uF,sJ];rfl)|rfl|(simp only [List.length_drop,List.length_take];rfl)) ?_;(with_reducible refine (bG.calls k (wrap64 ((ji7) - (ji8))) 1073741824 a1 t162 _ A9.out).mono ?_);rintro e w' ⟨rfl,⟨nd,rfl⟩⟩;refine ⟨_,rfl,?_⟩));go_ret;exact ⟨by first|rfl|(simp [bJ,bK] <;> rfl)|(simp only [<- uF,<- sJ];first|rfl|(simp [bJ,bK] <;> rfl))|(simp [*,bJ,bK] <;> rfl),zB⟩
 ·rw [if_neg c6] at H;have gI:(a0 == 0)=false:=beq_eq_false_iff_ne.mpr c6;have vU:(a0 != 0)=true:=bne_iff_ne.mpr c6;obtain ⟨dP,kT⟩:∃ j_:Int,(mx a1 a2)=j_:=⟨_,rfl⟩;replace H:(if a0=1 then ((gK.f k (wrap64 ((wrap64 ((wrap64 ((wrap64 (2*a2))*a4)) - (wrap64 ((wrap64 ((wrap64 (2*a3))+1))*a1))))+a2)) (wrap64 (2*(dP)))).bind fun ao9=>(some ao9)) else ((fK.f k (wrap64 ((wrap64 ((wrap64 ((wrap64 (2*a2))*a4)) - (wrap64 ((wrap64 ((wrap64 (2*a3))+1))*a1))))+a2)) (wrap64 (2*(dP)))).bind fun t164=>(some t164)))=some r:=(by first|(rw [kT] at H;exact H)|(simp only [kT] at H ⊢;exact H));have aoo:(if a1 < a2 then a2 else a1)=dP:=kT;by_cases c11:a0=1
  ·rw [if_pos c11] at H;have jy:(a0 == 1)=true:=beq_iff_eq.mpr c11;have aac:(a0 != 1)=false:=bne_eq_false_iff_eq.mpr c11;clear c11;replace H:=zO H;obtain ⟨ao9,A12,H⟩:=H;try dsimp only at H
   obtain rfl:=Option.some.inj H;go_enter Tryz.func129,Tryz.ntmps129;go_wp2_with (first|((with_reducible refine ay (f:=108) rfl ?_);refine aH (some 56) rfl rfl Tryz.func108 (by kernel_rfl) rfl #[.int .i64 (wrap64 ((wrap64 ((wrap64 ((wrap64 (2*a2))*a4)) - (wrap64 ((wrap64 ((wrap64 (2*a3))+1))*a1))))+a2)),.int .i64 (wrap64 (2*(dP)))] rfl (by (try simp only [List.map_toArray,List.map_cons,List.map_nil]);first|done|(simp only [kT];rfl)|(simp only [Int.tdiv_eq_ediv_of_nonneg hji10l];rfl)|rfl|(simp only [List.length_drop,List.length_take];rfl)) ?_;(with_reducible refine (gK.calls k (wrap64 ((wrap64 ((wrap64 ((wrap64 (2*a2))*a4)) - (wrap64 ((wrap64 ((wrap64 (2*a3))+1))*a1))))+a2)) (wrap64 (2*(dP))) ao9 _ A12.out).mono ?_);rintro e w13 ⟨rfl,hb⟩;refine ⟨_,rfl,?_⟩;replace HB:=aj.mk (ak zB hb);(try clear hb)));go_ret;exact ⟨by first|rfl|(simp [bJ,bK] <;> rfl)|(simp only [<- kT];first|rfl|(simp [bJ,bK] <;> rfl))|(simp [*,bJ,bK] <;> rfl),zB⟩
  ·rw [if_neg c11] at H;have jy:(a0 == 1)=false:=beq_eq_false_iff_ne.mpr c11;have aac:(a0 != 1)=true:=bne_iff_ne.mpr c11;replace H:=zO H;obtain ⟨t164,A14,H⟩:=H;try dsimp only at H
   obtain rfl:=Option.some.inj H;go_enter Tryz.func129,Tryz.ntmps129;go_wp2_with (first|((with_reducible refine ay (f:=153) rfl ?_);refine aH (some 59) rfl rfl Tryz.func153 (by kernel_rfl) rfl #[.int .i64 (wrap64 ((wrap64 ((wrap64 ((wrap64 (2*a2))*a4)) - (wrap64 ((wrap64 ((wrap64 (2*a3))+1))*a1))))+a2)),.int .i64 (wrap64 (2*(dP)))] rfl (by (try simp only [List.map_toArray,List.map_cons,List.map_nil]);first|done|(simp only [kT];rfl)|(simp only [Int.tdiv_eq_ediv_of_nonneg hji10l];rfl)|rfl|(simp only [List.length_drop,List.length_take];rfl)) ?_;(with_reducible refine (fK.calls k (wrap64 ((wrap64 ((wrap64 ((wrap64 (2*a2))*a4)) - (wrap64 ((wrap64 ((wrap64 (2*a3))+1))*a1))))+a2)) (wrap64 (2*(dP))) t164 _ A14.out).mono ?_);rintro e w15 ⟨rfl,hb⟩;refine ⟨_,rfl,?_⟩;replace HB:=aj.mk (ak zB hb);(try clear hb)));go_ret;exact ⟨by first|rfl|(simp [bJ,bK] <;> rfl)|(simp only [<- kT];first|rfl|(simp [bJ,bK] <;> rfl))|(simp [*,bJ,bK] <;> rfl),zB⟩
def je.l0:Nat->Int->Int->Int->Int->Int->List Int->Int->Int->Option (Int × List Int)
 | 0,_,_,_,_,_,_,_,_=>none
 | k+1,x0,x1,x2,x3,x8,x9,x20,x21=>if x21 < x20 then ((pJ.f k x0 x1 x2 x3 (wrap64 (x8+x21))).bind fun t167=>(if x9.length < 17592186044416 then (je.l0 k x0 x1 x2 x3 x8 (x9 ++ [t167]) x20 (wrap64 (x21+1))) else (none))) else (some (x8,x9))
def je.f (k:Nat) (a0 a1 a2 a3:Int):Option (Int × List Int):=(mO.f k a0 a1 a2 a3).bind fun axx=>(je.l0 k a0 a1 a2 a3 axx.1 ([]:List Int) axx.2 0)
theorem je.jH:∀ k,(∀ y0 y1 y2 y3 y4 y5 y6 y7,LeO (je.l0 k y0 y1 y2 y3 y4 y5 y6 y7) (je.l0 (k+1) y0 y1 y2 y3 y4 y5 y6 y7))
 | 0=>fun _ _ _ _ _ _ _ _ r h=>by simp [je.l0] at h
 | k+1=>by
  have ih0:=je.jH k
  ·intro y0 y1 y2 y3 y4 y5 y6 y7;unfold je.l0;repeat' (with_reducible first|exact ih0 _ _ _ _ _ _ _ _|exact mO.mono _ _ _ _ _|exact pJ.mono _ _ _ _ _ _|exact zM|refine LeO.ite ?_ ?_|refine LeO.bind ?_ (fun _ => ?_))
theorem je.mono:∀ a0 a1 a2 a3 k,LeO (je.f k a0 a1 a2 a3) (je.f (k+1) a0 a1 a2 a3):=by
 intro a0 a1 a2 a3 k;have ih0:=je.jH k;unfold je.f;repeat' (with_reducible first|exact ih0 _ _ _ _ _ _ _ _|exact mO.mono _ _ _ _ _|exact pJ.mono _ _ _ _ _ _|exact zM|refine LeO.ite ?_ ?_|refine LeO.bind ?_ (fun _ => ?_))
theorem je.calls (k:Nat) (a0 a1 a2 a3 r1:Int) (r2:List Int) (w:World) (hG:GL w) (h:je.f k a0 a1 a2 a3=some (r1,r2)) :
  Calls Tryz.prog 107 #[.int .i64 a0,.int .i64 a1,.int .i64 a2,.int .i64 a3] w fun e w'=>∃ v1_:Value,e = .returned (.tuple #[.int .i64 r1,v1_])/\Kd.R (Kd.int .i64) 2 w' w.heap.size (fun _=>True) v1_ r2/\Below w.heap.size w w':=by
 have HB:=aj.mk (Below.refl w.heap.size w);have H:=h;clear h;unfold je.f at H;replace H:=zO H;obtain ⟨⟨apa,asb⟩,A5,H⟩:=H;try dsimp only at H
 have H':=aj.mk H;clear H;go_enter Tryz.func107,Tryz.ntmps107;go_wp2_with (first|((with_reducible refine ay (f:=128) rfl ?_);refine aH (some 17) rfl rfl Tryz.func128 (by kernel_rfl) rfl #[.int .i64 a0,.int .i64 a1,.int .i64 a2,.int .i64 a3] rfl zL ?_;(with_reducible refine (mO.calls k a0 a1 a2 a3 apa asb _ (by exact GL.below hG (by repeat (first|(with_reducible first|exact HB.out|apply aK|apply aJ|apply bC)|exact HB.out|exact Below.refl _ _))) A5.out).mono ?_);rintro e w6 ⟨rfl,hb⟩;refine ⟨_,rfl,?_⟩;replace HB:=aj.mk (ak zB hb);(try clear hb)));go_loopg [9,21] k (fun kq v9 v21 w'=>∃ (vY:List Int) (yS:Int),v21 = .int .i64 yS/\aj (je.l0 kq a0 a1 a2 a3 apa vY asb yS=some (r1,r2))/\aj (kq<=k)/\aj (Kd.R (Kd.int .i64) 2 w' w.heap.size (fun _=>True) v9 vY)/\aj (Below w.heap.size w w'))
 case atStart=>exact ⟨(([]:List Int)),(0),zT,H',⟨Nat.le_refl _⟩,⟨by first|exact Kd.kJ _ _ _ _ _|exact Kd.qO _ _ _ _ _|exact Kd.oU _ _ _ _ _|exact Kd.qP _ _ _ _ _|exact Kd.qp _ _ _ _ _⟩,⟨zB⟩⟩
 case round =>
  clear H';obtain ⟨vY,yS,rfl,HA,HK1,asc,HB⟩:=hrel;cases gk with
  | zero=>exact absurd HA.out (by simp [je.l0])
  | succ k1 =>
   have H:=HA.out;clear HA;simp only [je.l0] at H;by_cases c7:yS < asb
   ·rw [if_pos c7] at H;have jw:=decide_eq_true c7;clear c7;replace H:=zO H;obtain ⟨t167,A8,H⟩:=H;try dsimp only at H
    by_cases c9:vY.length < 17592186044416
    ·rw [if_pos c9] at H;have aDM:=aj.mk c9;clear c9;obtain ⟨y168,hy168⟩:∃ y_:List Int,y_=(vY ++ [t167]):=⟨_,rfl⟩;replace H:(je.l0 k1 a0 a1 a2 a3 apa y168 asb (wrap64 (yS+1)))=some (r1,r2):=(by first|(rw [hy168];with_reducible exact H)|(have H2_:=(Option.bind_some _ _).symm.trans H;rw [hy168];with_reducible exact H2_)|(have H2_:=(Option.bind_some _ _).symm.trans H;with_reducible exact H2_)|with_reducible exact H|(rw [hy168];exact H)|exact H);have aCn:=aj.mk hy168;clear hy168;have H':=aj.mk H;clear H;go_wp2_with (first|((with_reducible refine ay (f:=129) rfl ?_);refine aH (some 32) rfl rfl Tryz.func129 (by kernel_rfl) rfl #[.int .i64 a0,.int .i64 a1,.int .i64 a2,.int .i64 a3,.int .i64 (wrap64 (apa+yS))] rfl zL ?_;(with_reducible refine (pJ.calls k1 a0 a1 a2 a3 (wrap64 (apa+yS)) t167 _ A8.out).mono ?_);rintro e w10 ⟨rfl,hb⟩;refine ⟨_,rfl,?_⟩;obtain ⟨asc,HB⟩:=zA2 (Kd.jF (by (with_reducible repeat (first|apply Kd.aN|apply Kd.aT|apply Kd.aV));exact asc.out) hb) (ak zB hb);(try clear hb))|((with_reducible refine kR (b := .append) (xs := #[.tmp 24,.tmp 33]) rfl ?_);at_builtin;refine Kd.lU (Kd.int .i64) (w0:=w) w.heap.size rfl (.tmp 24) (.tmp 33) 44 2 (.int .i64 0) 8 rfl Tryz.underlying44 yM rfl (by decide) (by omega) u9 vY t167 [.int .i64 t167] (fun _=>True) (fun _=>False) rfl rfl ?aP (fun _ hk=>hk.elim) ?aF ?aO ?aB ?aS ?aL ?_;(case aP=>exact rfl);(case aB=>exact zB);(case aF=>exact (fun _ _=>trivial));(case aO=>exact (by (with_reducible repeat (first|apply Kd.aN|apply Kd.aT|apply Kd.aV));exact asc.out));(case aS=>exact (bW zB));(case aL=>have:=aDM.out;omega);intro aJc w11 ho hb hg hat;rw [<- aCn.out] at ho;obtain ⟨HB,aCo⟩:=zA2 hb ho;clear ho hb hg hat));go_roundg k1
     case measure=>have:=HK1.out;omega
     case rel=>exact ⟨(y168),(wrap64 (yS+1)),zT,H',⟨by have:=HK1.out;omega⟩,⟨by (with_reducible repeat (first|apply Kd.aN|apply Kd.aT|apply Kd.aV));exact aCo.out⟩,⟨zB⟩⟩
    ·rw [if_neg c9] at H;exact absurd H (by simp)
   ·rw [if_neg c7] at H;have jw:=decide_eq_false c7;clear c7;simp only [Option.some.injEq,Prod.mk.injEq] at H;obtain ⟨rfl,rfl⟩:=H;go_wp2;go_ret2;exact ⟨_,zS,by (with_reducible repeat (first|apply Kd.aN|apply Kd.aT|apply Kd.aV));exact asc.out,zB⟩
def kD.j0:Nat->Int->Int->Bool->Option (Int)
 | 0,_,_,_=>none
 | k+1,x0,x1,x11=>if x11=true then (some 0) else (if x1=0 then (none) else (if (Int.tmod x0 x1)=0 then (some (Int.tmod x0 x1)) else (if ((decide ((Int.tmod x0 x1) < 0)) != (decide (x1 < 0)))=true then (some (wrap64 ((Int.tmod x0 x1)+x1))) else (some (Int.tmod x0 x1)))))
def kD.f (k:Nat) (a0 a1:Int):Option (Int):=if a1=0 then (kD.j0 k a0 a1 true) else (kD.j0 k a0 a1 (a1 == (-1)))
theorem kD.calls (k:Nat) (a0 a1 r:Int) (w:World) (h:kD.f k a0 a1=some r) :
  Calls Tryz.prog 103 #[.int .i64 a0,.int .i64 a1] w fun e w'=>e = .returned (.int .i64 r)/\dA w w':=by
 have H:=h;clear h;unfold kD.f at H;have HC3:=aj.mk H;clear H;go_enter Tryz.func103,Tryz.ntmps103;go_upto_region 1 with (fail);go_cut [11] (fun v11 wc=>∃ (kq:Nat) (anz:Bool),v11 = .bool anz/\aj (kD.j0 kq a0 a1 anz=some r)/\aj (kq<=k)/\dA w wc)
 case first =>
  have H:=HC3.out;clear HC3;by_cases c4:a1=0
  ·rw [if_pos c4] at H;have fH:(a1 == 0)=true:=beq_iff_eq.mpr c4;have aaS:(a1 != 0)=false:=bne_eq_false_iff_eq.mpr c4;clear c4
   (first|rw [fH]|(simp only [bP,bU];rw [fH])|skip)
   have H':=aj.mk H;clear H;go_wp2;go_meet
   case rel=>exact ⟨_,(true),zT,H',⟨by first|omega|exact Nat.le_refl _⟩,zW⟩
  ·rw [if_neg c4] at H;have fH:(a1 == 0)=false:=beq_eq_false_iff_ne.mpr c4;have aaS:(a1 != 0)=true:=bne_iff_ne.mpr c4
   (first|rw [fH]|(simp only [bP,bU];rw [fH])|skip)
   have H':=aj.mk H;clear H;go_wp2;go_meet
   case rel=>exact ⟨_,((a1 == (-1))),zT,H',⟨by first|omega|exact Nat.le_refl _⟩,zW⟩
 case rest =>
  clear HC3;obtain ⟨kq,anz,rfl,HA,HJ2,⟨mc2,rfl⟩⟩:=hcut;cases kq with
  | zero=>exact absurd HA.out (by simp [kD.j0])
  | succ kj2 =>
   have H:=HA.out;clear HA;simp only [kD.j0] at H;by_cases c5:anz=true
   ·subst c5;rw [if_pos rfl] at H;(try dsimp only at H);obtain rfl:=Option.some.inj H;go_wp2;go_ret;exact ⟨zT,zW⟩
   ·replace c5:=Bool.eq_false_iff.mpr c5;subst c5;rw [if_neg (show ¬ (false=true) by decide)] at H;(try dsimp only at H);by_cases c6:a1=0
    ·rw [if_pos c6] at H;exact absurd H (by simp)
    ·rw [if_neg c6] at H;have gI:(a1 == 0)=false:=beq_eq_false_iff_ne.mpr c6;have vU:(a1 != 0)=true:=bne_iff_ne.mpr c6;by_cases c7:(Int.tmod a0 a1)=0
     ·rw [if_pos c7] at H;have jw:((Int.tmod a0 a1) == 0)=true:=beq_iff_eq.mpr c7;have abY:((Int.tmod a0 a1) != 0)=false:=bne_eq_false_iff_eq.mpr c7;clear c7;obtain rfl:=Option.some.inj H;go_wp2;go_ret;exact ⟨zT,zW⟩
     ·rw [if_neg c7] at H;have jw:((Int.tmod a0 a1) == 0)=false:=beq_eq_false_iff_ne.mpr c7;have abY:((Int.tmod a0 a1) != 0)=true:=bne_iff_ne.mpr c7;by_cases c8:((decide ((Int.tmod a0 a1) < 0)) != (decide (a1 < 0)))=true
      ·rw [if_pos c8] at H;have qj:((decide ((Int.tmod a0 a1) < 0)) != (decide (a1 < 0)))=true:=c8
       (try (have abZ:decide ((decide ((Int.tmod a0 a1) < 0))=(decide (a1 < 0)))=false:=by simpa using c8))
       (try (have aDN:((decide ((Int.tmod a0 a1) < 0)) == (decide (a1 < 0)))=false:=by simpa using c8))
       (try (have aJd:¬ ((decide ((Int.tmod a0 a1) < 0))=(decide (a1 < 0))):=by simpa using c8))
       clear c8;obtain rfl:=Option.some.inj H;go_wp2;go_ret;exact ⟨zT,zW⟩
      ·rw [if_neg c8] at H;have qj:((decide ((Int.tmod a0 a1) < 0)) != (decide (a1 < 0)))=false:=by simpa using c8
       (try (have abZ:decide ((decide ((Int.tmod a0 a1) < 0))=(decide (a1 < 0)))=true:=by simpa using c8))
       (try (have aDN:((decide ((Int.tmod a0 a1) < 0)) == (decide (a1 < 0)))=true:=by simpa using c8))
       clear c8;obtain rfl:=Option.some.inj H;go_wp2;go_ret;exact ⟨zT,zW⟩
def mG.j0:Nat->Int->Int->Int->Bool->Option (Int)
 | 0,_,_,_,_=>none
 | k+1,x0,x1,x5,x9=>if x9=true then (some 9223372036854775807) else (if x1 < 0 then (if x5 > x0 then (some (-9223372036854775808)) else (some x5)) else (some x5))
def mG.f (k:Nat) (a0 a1:Int):Option (Int):=if a1 > 0 then (mG.j0 k a0 a1 (wrap64 (a0+a1)) (decide ((wrap64 (a0+a1)) < a0))) else (mG.j0 k a0 a1 (wrap64 (a0+a1)) false)
theorem mG.calls (k:Nat) (a0 a1 r:Int) (w:World) (h:mG.f k a0 a1=some r) :
  Calls Tryz.prog 162 #[.int .i64 a0,.int .i64 a1] w fun e w'=>e = .returned (.int .i64 r)/\dA w w':=by
 have H:=h;clear h;unfold mG.f at H;have HC3:=aj.mk H;clear H;go_enter Tryz.func162,Tryz.ntmps162;go_upto_region 2 with (fail);go_cut [9] (fun v9 wc=>∃ (kq:Nat) (ac1:Bool),v9 = .bool ac1/\aj (mG.j0 kq a0 a1 (wrap64 (a0+a1)) ac1=some r)/\aj (kq<=k)/\dA w wc)
 case first =>
  have H:=HC3.out;clear HC3;by_cases c4:a1 > 0
  ·rw [if_pos c4] at H;have fH:=decide_eq_true c4;clear c4
   (first|rw [fH]|(simp only [bP,bU];rw [fH])|skip)
   have H':=aj.mk H;clear H;go_wp2;go_meet
   case rel=>exact ⟨_,(decide ((wrap64 (a0+a1)) < a0)),zT,H',⟨by first|omega|exact Nat.le_refl _⟩,zW⟩
  ·rw [if_neg c4] at H;have fH:=decide_eq_false c4;clear c4
   (first|rw [fH]|(simp only [bP,bU];rw [fH])|skip)
   have H':=aj.mk H;clear H;go_wp2;go_meet
   case rel=>exact ⟨_,(false),zT,H',⟨by first|omega|exact Nat.le_refl _⟩,zW⟩
 case rest =>
  clear HC3;obtain ⟨kq,ac1,rfl,HA,HJ2,⟨mc2,rfl⟩⟩:=hcut;cases kq with
  | zero=>exact absurd HA.out (by simp [mG.j0])
  | succ kj2 =>
   have H:=HA.out;clear HA;simp only [mG.j0] at H;by_cases c5:ac1=true
   ·subst c5;rw [if_pos rfl] at H;(try dsimp only at H);obtain rfl:=Option.some.inj H;go_wp2;go_ret;exact ⟨zT,zW⟩
   ·replace c5:=Bool.eq_false_iff.mpr c5;subst c5;rw [if_neg (show ¬ (false=true) by decide)] at H;(try dsimp only at H);by_cases c6:a1 < 0
    ·rw [if_pos c6] at H;have gI:=decide_eq_true c6;clear c6;by_cases c7:(wrap64 (a0+a1)) > a0
     ·rw [if_pos c7] at H;have jw:=decide_eq_true c7;clear c7;obtain rfl:=Option.some.inj H;go_wp2;go_ret;exact ⟨zT,zW⟩
     ·rw [if_neg c7] at H;have jw:=decide_eq_false c7;clear c7;obtain rfl:=Option.some.inj H;go_wp2;go_ret;exact ⟨zT,zW⟩
    ·rw [if_neg c6] at H;have gI:=decide_eq_false c6;clear c6;obtain rfl:=Option.some.inj H;go_wp2;go_ret;exact ⟨zT,zW⟩
def pq.l0:Nat->Int->List Int->Int->Int->Option (Int)
 | 0,_,_,_,_=>none
 | k+1,x3,x6,x7,x8=>if x8 < x7 then (if 0<=x8 then (if x8 < (x6.length:Int) then ((mG.f k x3 (rd x6 x8)).bind fun ase=>(pq.l0 k ase x6 x7 (wrap64 (x8+1)))) else (none)) else (none)) else (some x3)
def pq.f (k:Nat) (l0:List Int):Option (Int):=pq.l0 k 0 l0 (l0.length:Int) 0
theorem pq.calls (k:Nat) (A0:Option Addr) (c0:Nat) (l0:List Int) (r:Int) (w:World) (hr0:Kd.C (Kd.int .i64) w A0 l0.length l0) (hc0:l0.length<=c0) (h:pq.f k l0=some r) :
  Calls Tryz.prog 132 #[.slice A0 l0.length c0] w fun e w'=>e = .returned (.int .i64 r)/\dA w w':=by
 have HR0:=aj.mk hr0;have HC0:=aj.mk hc0;clear hr0 hc0;have H:=h;clear h;unfold pq.f at H;have H':=aj.mk H;clear H;go_enter Tryz.func132,Tryz.ntmps132;go_wp2;go_loopg [3,8] k (fun kq v3 v8 w'=>∃ (qm:Int) (iT:Int),v3 = .int .i64 qm/\v8 = .int .i64 iT/\aj (pq.l0 kq qm l0 (l0.length:Int) iT=some r)/\aj (kq<=k)/\dA w w')
 case atStart=>exact ⟨(0),(0),zT,zT,H',⟨Nat.le_refl _⟩,zW⟩
 case round =>
  clear H';obtain ⟨qm,iT,rfl,rfl,HA,HK1,⟨m1,rfl⟩⟩:=hrel;cases gk with
  | zero=>exact absurd HA.out (by simp [pq.l0])
  | succ k1 =>
   have H:=HA.out;clear HA;simp only [pq.l0] at H;by_cases c2:iT < (l0.length:Int)
   ·rw [if_pos c2] at H;have oM:=decide_eq_true c2;clear c2;by_cases c3:0<=iT
    ·rw [if_pos c3] at H;have fU:=decide_eq_true c3;clear c3;by_cases c4:iT < (l0.length:Int)
     ·rw [if_pos c4] at H;have fH:=decide_eq_true c4;clear c4;replace H:=zO H;obtain ⟨ase,A5,H⟩:=H;try dsimp only at H
      have H':=aj.mk H;clear H;have avP:0<=(iT:Int):=of_decide_eq_true (by first|(with_reducible assumption)|assumption);have avQ:iT < (l0.length:Int):=of_decide_eq_true (by first|(with_reducible assumption)|assumption);obtain ⟨aIq,aDO,aFz⟩:=Kd.iZ HR0.out iT avP avQ;cases aDO;replace avP:=eq_true avP;replace avQ:=eq_true avQ;go_wp2_with (first|((with_reducible refine ay (f:=162) rfl ?_);refine aH (some 14) rfl rfl Tryz.func162 (by kernel_rfl) rfl #[.int .i64 qm,.int .i64 (rd l0 iT)] rfl zL ?_;(with_reducible refine (mG.calls k1 qm (rd l0 iT) ase _ A5.out).mono ?_);rintro e w' ⟨rfl,⟨nd,rfl⟩⟩;refine ⟨_,rfl,?_⟩));go_roundg k1
      case measure=>have:=HK1.out;omega
      case rel=>exact ⟨(ase),(wrap64 (iT+1)),zT,zT,H',⟨by have:=HK1.out;omega⟩,zW⟩
     ·rw [if_neg c4] at H;exact absurd H (by simp)
    ·rw [if_neg c3] at H;exact absurd H (by simp)
   ·rw [if_neg c2] at H;have oM:=decide_eq_false c2;clear c2;obtain rfl:=Option.some.inj H;go_wp2;go_ret;exact ⟨zT,zW⟩
end Go.Proofs.YtpondkggmcmpfaaGreatDoor.QA
