/- Joined by wip/tools/bundle.py out of: QAx6 QAx7 QAx8 QAx9 QAx10 QAx11. -/
import Derived.Test.YtpondkggmcmpfaaGreatDoorBDirectComposes1
set_option maxHeartbeats 8000000
set_option maxRecDepth 100000
namespace Go.Proofs.YtpondkggmcmpfaaGreatDoor.QA
open Go.Proofs.YtpondkggmcmpfaaGreatDoor.T
open Go.RowKit Go.Proofs.YtpondkggmcmpfaaGreatDoorW.PrintWords Go.Proofs.YtpondkggmcmpfaaGreatDoorW.PrintLast Go.Proofs.YtpondkggmcmpfaaGreatDoorW.PrintMore
attribute [local go_sem] dU dM dN fA fB
set_option linter.unusedVariables false
set_option linter.unusedSimpArgs false
mutual
def aY.j2:Nat→Int→Int→Int→Int→Int→Int→Int→Int→Option (Int × Int)
 | 0,_,_,_,_,_,_,_,_=>none
 | k+1,x2,x8,x9,x10,x11,x13,x14,x15=>if x9=0 then (none) else (aY.l1 k x2 x8 x9 x10 x14 x15 (IntKind.u64.wrap ((IntKind.u64.wrap ((IntKind.u64.wrap ((IntKind.u64.wrap (x11*4294967296))+x13)) - (IntKind.u64.wrap (x15*x2)))) - (IntKind.u64.wrap ((IntKind.u64.wrap (Int.tdiv (IntKind.u64.wrap ((IntKind.u64.wrap ((IntKind.u64.wrap (x11*4294967296))+x13)) - (IntKind.u64.wrap (x15*x2)))) x9))*x9)))) (IntKind.u64.wrap ((IntKind.u64.wrap ((IntKind.u64.wrap (x11*4294967296))+x13)) - (IntKind.u64.wrap (x15*x2)))) (IntKind.u64.wrap (Int.tdiv (IntKind.u64.wrap ((IntKind.u64.wrap ((IntKind.u64.wrap (x11*4294967296))+x13)) - (IntKind.u64.wrap (x15*x2)))) x9)))
def aY.l1:Nat→Int→Int→Int→Int→Int→Int→Int→Int→Int→Option (Int × Int)
 | 0,_,_,_,_,_,_,_,_,_=>none
 | k+1,x2,x8,x9,x10,x14,x15,x16,x17,x18=>if x18≥4294967296 then (aY.j4 k x2 x8 x9 x10 x14 x15 x16 x17 x18 true) else (aY.j4 k x2 x8 x9 x10 x14 x15 x16 x17 x18 (decide ((IntKind.u64.wrap (x18*x10)) > (IntKind.u64.wrap ((IntKind.u64.wrap (4294967296*x16))+x14)))))
def aY.j4:Nat→Int→Int→Int→Int→Int→Int→Int→Int→Int→Bool→Option (Int × Int)
 | 0,_,_,_,_,_,_,_,_,_,_=>none
 | k+1,x2,x8,x9,x10,x14,x15,x16,x17,x18,x113=>if x113=true then (if (IntKind.u64.wrap (x16+x9))≥4294967296 then (if 0≤x8 then (some (IntKind.u64.wrap ((IntKind.u64.wrap (x15*4294967296))+(IntKind.u64.wrap (x18 - 1))),shr .u64 (IntKind.u64.wrap ((IntKind.u64.wrap ((IntKind.u64.wrap (x17*4294967296))+x14)) - (IntKind.u64.wrap ((IntKind.u64.wrap (x18 - 1))*x2)))) x8)) else (none)) else (aY.l1 k x2 x8 x9 x10 x14 x15 (IntKind.u64.wrap (x16+x9)) x17 (IntKind.u64.wrap (x18 - 1)))) else (if 0≤x8 then (some (IntKind.u64.wrap ((IntKind.u64.wrap (x15*4294967296))+x18),shr .u64 (IntKind.u64.wrap ((IntKind.u64.wrap ((IntKind.u64.wrap (x17*4294967296))+x14)) - (IntKind.u64.wrap (x18*x2)))) x8)) else (none))
def aY.l0:Nat→Int→Int→Int→Int→Int→Int→Int→Int→Int→Option (Int × Int)
 | 0,_,_,_,_,_,_,_,_,_=>none
 | k+1,x2,x8,x9,x10,x11,x13,x14,x15,x16=>if x15≥4294967296 then (aY.j1 k x2 x8 x9 x10 x11 x13 x14 x15 x16 true) else (aY.j1 k x2 x8 x9 x10 x11 x13 x14 x15 x16 (decide ((IntKind.u64.wrap (x15*x10)) > (IntKind.u64.wrap ((IntKind.u64.wrap (4294967296*x16))+x13)))))
def aY.j1:Nat→Int→Int→Int→Int→Int→Int→Int→Int→Int→Bool→Option (Int × Int)
 | 0,_,_,_,_,_,_,_,_,_,_=>none
 | k+1,x2,x8,x9,x10,x11,x13,x14,x15,x16,x78=>if x78=true then (if (IntKind.u64.wrap (x16+x9))≥4294967296 then (aY.j2 k x2 x8 x9 x10 x11 x13 x14 (IntKind.u64.wrap (x15 - 1))) else (aY.l0 k x2 x8 x9 x10 x11 x13 x14 (IntKind.u64.wrap (x15 - 1)) (IntKind.u64.wrap (x16+x9)))) else (aY.j2 k x2 x8 x9 x10 x11 x13 x14 x15)
end
def aY.f (k:Nat) (a0 a1 a2:Int):Option (Int × Int):=if a2=0 then (none) else (if a2≤a0 then (none) else (if a0=0 then (some (IntKind.u64.wrap (Int.tdiv a1 a2),Int.tmod a1 a2)) else ((bits_LeadingZeros64.f a2).bind fun sD=>(if 0≤(IntKind.u64.wrap (sD)) then (if 0≤(IntKind.u64.wrap (64 - (IntKind.u64.wrap (sD)))) then (if ((shl .u64 a2 (IntKind.u64.wrap (sD))) / 4294967296)=0 then (none) else (aY.l0 k (shl .u64 a2 (IntKind.u64.wrap (sD))) (IntKind.u64.wrap (sD)) ((shl .u64 a2 (IntKind.u64.wrap (sD))) / 4294967296) (Go.bits .and .u64 (shl .u64 a2 (IntKind.u64.wrap (sD))) 4294967295) (Go.bits .or .u64 (shl .u64 a0 (IntKind.u64.wrap (sD))) (shr .u64 a1 (IntKind.u64.wrap (64 - (IntKind.u64.wrap (sD)))))) ((shl .u64 a1 (IntKind.u64.wrap (sD))) / 4294967296) (Go.bits .and .u64 (shl .u64 a1 (IntKind.u64.wrap (sD))) 4294967295) (IntKind.u64.wrap (Int.tdiv (Go.bits .or .u64 (shl .u64 a0 (IntKind.u64.wrap (sD))) (shr .u64 a1 (IntKind.u64.wrap (64 - (IntKind.u64.wrap (sD)))))) ((shl .u64 a2 (IntKind.u64.wrap (sD))) / 4294967296))) (IntKind.u64.wrap ((Go.bits .or .u64 (shl .u64 a0 (IntKind.u64.wrap (sD))) (shr .u64 a1 (IntKind.u64.wrap (64 - (IntKind.u64.wrap (sD)))))) - (IntKind.u64.wrap ((IntKind.u64.wrap (Int.tdiv (Go.bits .or .u64 (shl .u64 a0 (IntKind.u64.wrap (sD))) (shr .u64 a1 (IntKind.u64.wrap (64 - (IntKind.u64.wrap (sD)))))) ((shl .u64 a2 (IntKind.u64.wrap (sD))) / 4294967296)))*((shl .u64 a2 (IntKind.u64.wrap (sD))) / 4294967296))))))) else (none)) else (none)))))
theorem aY.jG:∀ k,(∀ y0 y1 y2 y3 y4 y5 y6 y7,LeO (aY.j2 k y0 y1 y2 y3 y4 y5 y6 y7) (aY.j2 (k+1) y0 y1 y2 y3 y4 y5 y6 y7))∧(∀ y0 y1 y2 y3 y4 y5 y6 y7 y8,LeO (aY.l1 k y0 y1 y2 y3 y4 y5 y6 y7 y8) (aY.l1 (k+1) y0 y1 y2 y3 y4 y5 y6 y7 y8))∧(∀ y0 y1 y2 y3 y4 y5 y6 y7 y8 y9,LeO (aY.j4 k y0 y1 y2 y3 y4 y5 y6 y7 y8 y9) (aY.j4 (k+1) y0 y1 y2 y3 y4 y5 y6 y7 y8 y9))∧(∀ y0 y1 y2 y3 y4 y5 y6 y7 y8,LeO (aY.l0 k y0 y1 y2 y3 y4 y5 y6 y7 y8) (aY.l0 (k+1) y0 y1 y2 y3 y4 y5 y6 y7 y8))∧(∀ y0 y1 y2 y3 y4 y5 y6 y7 y8 y9,LeO (aY.j1 k y0 y1 y2 y3 y4 y5 y6 y7 y8 y9) (aY.j1 (k+1) y0 y1 y2 y3 y4 y5 y6 y7 y8 y9))
 | 0=>⟨fun _ _ _ _ _ _ _ _ r h=>by simp [aY.j2] at h,fun _ _ _ _ _ _ _ _ _ r h=>by simp [aY.l1] at h,fun _ _ _ _ _ _ _ _ _ _ r h=>by simp [aY.j4] at h,fun _ _ _ _ _ _ _ _ _ r h=>by simp [aY.l0] at h,fun _ _ _ _ _ _ _ _ _ _ r h=>by simp [aY.j1] at h⟩
 | k+1=>by
  obtain ⟨ih0,ih1,ih2,ih3,ih4⟩:=aY.jG k;refine ⟨?_,?_,?_,?_,?_⟩
  ·intro y0 y1 y2 y3 y4 y5 y6 y7;unfold aY.j2;repeat' (with_reducible first|exact ih0 _ _ _ _ _ _ _ _|exact ih1 _ _ _ _ _ _ _ _ _|exact ih2 _ _ _ _ _ _ _ _ _ _|exact ih3 _ _ _ _ _ _ _ _ _|exact ih4 _ _ _ _ _ _ _ _ _ _|exact zM|refine LeO.ite ?_ ?_|refine LeO.bind ?_ (fun _ => ?_))
  ·intro y0 y1 y2 y3 y4 y5 y6 y7 y8;unfold aY.l1;repeat' (with_reducible first|exact ih0 _ _ _ _ _ _ _ _|exact ih1 _ _ _ _ _ _ _ _ _|exact ih2 _ _ _ _ _ _ _ _ _ _|exact ih3 _ _ _ _ _ _ _ _ _|exact ih4 _ _ _ _ _ _ _ _ _ _|exact zM|refine LeO.ite ?_ ?_|refine LeO.bind ?_ (fun _ => ?_))
  ·intro y0 y1 y2 y3 y4 y5 y6 y7 y8 y9;unfold aY.j4;repeat' (with_reducible first|exact ih0 _ _ _ _ _ _ _ _|exact ih1 _ _ _ _ _ _ _ _ _|exact ih2 _ _ _ _ _ _ _ _ _ _|exact ih3 _ _ _ _ _ _ _ _ _|exact ih4 _ _ _ _ _ _ _ _ _ _|exact zM|refine LeO.ite ?_ ?_|refine LeO.bind ?_ (fun _ => ?_))
  ·intro y0 y1 y2 y3 y4 y5 y6 y7 y8;unfold aY.l0;repeat' (with_reducible first|exact ih0 _ _ _ _ _ _ _ _|exact ih1 _ _ _ _ _ _ _ _ _|exact ih2 _ _ _ _ _ _ _ _ _ _|exact ih3 _ _ _ _ _ _ _ _ _|exact ih4 _ _ _ _ _ _ _ _ _ _|exact zM|refine LeO.ite ?_ ?_|refine LeO.bind ?_ (fun _ => ?_))
  ·intro y0 y1 y2 y3 y4 y5 y6 y7 y8 y9;unfold aY.j1;repeat' (with_reducible first|exact ih0 _ _ _ _ _ _ _ _|exact ih1 _ _ _ _ _ _ _ _ _|exact ih2 _ _ _ _ _ _ _ _ _ _|exact ih3 _ _ _ _ _ _ _ _ _|exact ih4 _ _ _ _ _ _ _ _ _ _|exact zM|refine LeO.ite ?_ ?_|refine LeO.bind ?_ (fun _ => ?_))
theorem aY.mono:∀ a0 a1 a2 k,LeO (aY.f k a0 a1 a2) (aY.f (k+1) a0 a1 a2):=by
 intro a0 a1 a2 k;obtain ⟨ih0,ih1,ih2,ih3,ih4⟩:=aY.jG k;unfold aY.f;repeat' (with_reducible first|exact ih0 _ _ _ _ _ _ _ _|exact ih1 _ _ _ _ _ _ _ _ _|exact ih2 _ _ _ _ _ _ _ _ _ _|exact ih3 _ _ _ _ _ _ _ _ _|exact ih4 _ _ _ _ _ _ _ _ _ _|exact zM|refine LeO.ite ?_ ?_|refine LeO.bind ?_ (fun _ => ?_))
theorem aY.calls (k:Nat) (a0 a1 a2 r1 r2:Int) (w:World) (h:aY.f k a0 a1 a2=some (r1,r2)) :
  Calls Tryz.prog 157 #[.int .u64 a0,.int .u64 a1,.int .u64 a2] w fun e w'=>e = .returned (.tuple #[.int .u64 r1,.int .u64 r2])∧dA w w':=by
 have H:=h;clear h;unfold aY.f at H;by_cases c4:a2=0
 ·rw [if_pos c4] at H;exact absurd H (by simp)
 ·rw [if_neg c4] at H;have fH:(a2 == 0)=false:=beq_eq_false_iff_ne.mpr c4;have aaJ:(a2 != 0)=true:=bne_iff_ne.mpr c4;by_cases c5:a2≤a0
  ·rw [if_pos c5] at H;exact absurd H (by simp)
  ·rw [if_neg c5] at H;have gJ:=decide_eq_false c5;clear c5;by_cases c6:a0=0
   ·rw [if_pos c6] at H;have gI:(a0 == 0)=true:=beq_iff_eq.mpr c6;have vS:(a0 != 0)=false:=bne_eq_false_iff_eq.mpr c6;clear c6;simp only [Option.some.injEq,Prod.mk.injEq] at H;obtain ⟨rfl,rfl⟩:=H;go_enter Tryz.func157,Tryz.ntmps157;go_wp2;repeat (go_quiet (fail);try go_wp2)
    go_ret2;exact ⟨zT,zW⟩
   ·rw [if_neg c6] at H;have gI:(a0 == 0)=false:=beq_eq_false_iff_ne.mpr c6;have vS:(a0 != 0)=true:=bne_iff_ne.mpr c6;replace H:=zO H;obtain ⟨sD,A7,H⟩:=H;try dsimp only at H
    obtain ⟨ji8,sG⟩:∃ j_:Int,(IntKind.u64.wrap (sD))=j_:=⟨_,rfl⟩;replace H:(if 0≤(ji8) then (if 0≤(IntKind.u64.wrap (64 - (ji8))) then (if ((shl .u64 a2 (ji8)) / 4294967296)=0 then (none) else (aY.l0 k (shl .u64 a2 (ji8)) ji8 ((shl .u64 a2 (ji8)) / 4294967296) (Go.bits .and .u64 (shl .u64 a2 (ji8)) 4294967295) (Go.bits .or .u64 (shl .u64 a0 (ji8)) (shr .u64 a1 (IntKind.u64.wrap (64 - (ji8))))) ((shl .u64 a1 (ji8)) / 4294967296) (Go.bits .and .u64 (shl .u64 a1 (ji8)) 4294967295) (IntKind.u64.wrap (Int.tdiv (Go.bits .or .u64 (shl .u64 a0 (ji8)) (shr .u64 a1 (IntKind.u64.wrap (64 - (ji8))))) ((shl .u64 a2 (ji8)) / 4294967296))) (IntKind.u64.wrap ((Go.bits .or .u64 (shl .u64 a0 (ji8)) (shr .u64 a1 (IntKind.u64.wrap (64 - (ji8))))) - (IntKind.u64.wrap ((IntKind.u64.wrap (Int.tdiv (Go.bits .or .u64 (shl .u64 a0 (ji8)) (shr .u64 a1 (IntKind.u64.wrap (64 - (ji8))))) ((shl .u64 a2 (ji8)) / 4294967296)))*((shl .u64 a2 (ji8)) / 4294967296))))))) else (none)) else (none))=some (r1,r2):=by first|(rw [sG] at H;exact H)|(simp only [sG] at H ⊢;exact H)
    (try rw [sG] at A7)
    by_cases c9:0≤(ji8)
    ·rw [if_pos c9] at H;have o8:=eq_true c9;have adA:=decide_eq_true c9;clear c9;obtain ⟨dO,kT⟩:∃ j_:Int,(shl .u64 a2 (ji8))=j_:=⟨_,rfl⟩;replace H:(if 0≤(IntKind.u64.wrap (64 - (ji8))) then (if ((dO) / 4294967296)=0 then (none) else (aY.l0 k dO ji8 ((dO) / 4294967296) (Go.bits .and .u64 (dO) 4294967295) (Go.bits .or .u64 (shl .u64 a0 (ji8)) (shr .u64 a1 (IntKind.u64.wrap (64 - (ji8))))) ((shl .u64 a1 (ji8)) / 4294967296) (Go.bits .and .u64 (shl .u64 a1 (ji8)) 4294967295) (IntKind.u64.wrap (Int.tdiv (Go.bits .or .u64 (shl .u64 a0 (ji8)) (shr .u64 a1 (IntKind.u64.wrap (64 - (ji8))))) ((dO) / 4294967296))) (IntKind.u64.wrap ((Go.bits .or .u64 (shl .u64 a0 (ji8)) (shr .u64 a1 (IntKind.u64.wrap (64 - (ji8))))) - (IntKind.u64.wrap ((IntKind.u64.wrap (Int.tdiv (Go.bits .or .u64 (shl .u64 a0 (ji8)) (shr .u64 a1 (IntKind.u64.wrap (64 - (ji8))))) ((dO) / 4294967296)))*((dO) / 4294967296))))))) else (none))=some (r1,r2):=by first|(rw [kT] at H;exact H)|(simp only [kT] at H ⊢;exact H)
     (try rw [kT] at A7)
     have aog:(IntKind.u64.wrap (a2*2 ^ min (ji8).toNat 64))=dO:=kT;have as9:(ji8)≤64→(IntKind.u64.wrap (a2*2 ^ (ji8).toNat))=dO:=aaQ kT;have jv:=eq_true (of_decide_eq_true (by first|(with_reducible assumption)|assumption):0≤(ji8));obtain ⟨jZ,qO⟩:∃ j_:Int,(shl .u64 a0 (ji8))=j_:=⟨_,rfl⟩;replace H:(if 0≤(IntKind.u64.wrap (64 - (ji8))) then (if ((dO) / 4294967296)=0 then (none) else (aY.l0 k dO ji8 ((dO) / 4294967296) (Go.bits .and .u64 (dO) 4294967295) (Go.bits .or .u64 (jZ) (shr .u64 a1 (IntKind.u64.wrap (64 - (ji8))))) ((shl .u64 a1 (ji8)) / 4294967296) (Go.bits .and .u64 (shl .u64 a1 (ji8)) 4294967295) (IntKind.u64.wrap (Int.tdiv (Go.bits .or .u64 (jZ) (shr .u64 a1 (IntKind.u64.wrap (64 - (ji8))))) ((dO) / 4294967296))) (IntKind.u64.wrap ((Go.bits .or .u64 (jZ) (shr .u64 a1 (IntKind.u64.wrap (64 - (ji8))))) - (IntKind.u64.wrap ((IntKind.u64.wrap (Int.tdiv (Go.bits .or .u64 (jZ) (shr .u64 a1 (IntKind.u64.wrap (64 - (ji8))))) ((dO) / 4294967296)))*((dO) / 4294967296))))))) else (none))=some (r1,r2):=by first|(rw [qO] at H;exact H)|(simp only [qO] at H ⊢;exact H)
     (try rw [qO] at A7)
     have azB:(IntKind.u64.wrap (a0*2 ^ min (ji8).toNat 64))=jZ:=qO;have aFC:(ji8)≤64→(IntKind.u64.wrap (a0*2 ^ (ji8).toNat))=jZ:=aaQ qO;obtain ⟨aeN,akr⟩:∃ j_:Int,(IntKind.u64.wrap (64 - (ji8)))=j_:=⟨_,rfl⟩;replace H:(if 0≤(aeN) then (if ((dO) / 4294967296)=0 then (none) else (aY.l0 k dO ji8 ((dO) / 4294967296) (Go.bits .and .u64 (dO) 4294967295) (Go.bits .or .u64 (jZ) (shr .u64 a1 (aeN))) ((shl .u64 a1 (ji8)) / 4294967296) (Go.bits .and .u64 (shl .u64 a1 (ji8)) 4294967295) (IntKind.u64.wrap (Int.tdiv (Go.bits .or .u64 (jZ) (shr .u64 a1 (aeN))) ((dO) / 4294967296))) (IntKind.u64.wrap ((Go.bits .or .u64 (jZ) (shr .u64 a1 (aeN))) - (IntKind.u64.wrap ((IntKind.u64.wrap (Int.tdiv (Go.bits .or .u64 (jZ) (shr .u64 a1 (aeN))) ((dO) / 4294967296)))*((dO) / 4294967296))))))) else (none))=some (r1,r2):=by first|(rw [akr] at H;exact H)|(simp only [akr] at H ⊢;exact H)
     (try rw [akr] at A7)
     by_cases c14:0≤(aeN)
     ·rw [if_pos c14] at H;have acn:=eq_true c14;have ani:=decide_eq_true c14;clear c14;obtain ⟨rC,abE⟩:∃ j_:Int,(shr .u64 a1 (aeN))=j_:=⟨_,rfl⟩;replace H:(if ((dO) / 4294967296)=0 then (none) else (aY.l0 k dO ji8 ((dO) / 4294967296) (Go.bits .and .u64 (dO) 4294967295) (Go.bits .or .u64 (jZ) (rC)) ((shl .u64 a1 (ji8)) / 4294967296) (Go.bits .and .u64 (shl .u64 a1 (ji8)) 4294967295) (IntKind.u64.wrap (Int.tdiv (Go.bits .or .u64 (jZ) (rC)) ((dO) / 4294967296))) (IntKind.u64.wrap ((Go.bits .or .u64 (jZ) (rC)) - (IntKind.u64.wrap ((IntKind.u64.wrap (Int.tdiv (Go.bits .or .u64 (jZ) (rC)) ((dO) / 4294967296)))*((dO) / 4294967296)))))))=some (r1,r2):=by first|(rw [abE] at H;exact H)|(simp only [abE] at H ⊢;exact H)
      (try rw [abE] at A7)
      have aFD:(a1 / 2 ^ min (aeN).toNat 64)=rC:=abE;have aFE:(aeN)≤64→(a1 / 2 ^ (aeN).toNat)=rC:=rF abE;have arV:=eq_true (of_decide_eq_true (by first|(with_reducible assumption)|assumption):0≤(ji8));obtain ⟨o9,abG⟩:∃ j_:Int,(shl .u64 a1 (ji8))=j_:=⟨_,rfl⟩;replace H:(if ((dO) / 4294967296)=0 then (none) else (aY.l0 k dO ji8 ((dO) / 4294967296) (Go.bits .and .u64 (dO) 4294967295) (Go.bits .or .u64 (jZ) (rC)) ((o9) / 4294967296) (Go.bits .and .u64 (o9) 4294967295) (IntKind.u64.wrap (Int.tdiv (Go.bits .or .u64 (jZ) (rC)) ((dO) / 4294967296))) (IntKind.u64.wrap ((Go.bits .or .u64 (jZ) (rC)) - (IntKind.u64.wrap ((IntKind.u64.wrap (Int.tdiv (Go.bits .or .u64 (jZ) (rC)) ((dO) / 4294967296)))*((dO) / 4294967296)))))))=some (r1,r2):=by first|(rw [abG] at H;exact H)|(simp only [abG] at H ⊢;exact H)
      (try rw [abG] at A7)
      have aFF:(IntKind.u64.wrap (a1*2 ^ min (ji8).toNat 64))=o9:=abG;have aFG:(ji8)≤64→(IntKind.u64.wrap (a1*2 ^ (ji8).toNat))=o9:=aaQ abG;by_cases c18:((dO) / 4294967296)=0
      ·rw [if_pos c18] at H;exact absurd H (by simp)
      ·rw [if_neg c18] at H;have aB3:(((dO) / 4294967296) == 0)=false:=beq_eq_false_iff_ne.mpr c18;have aHY:(((dO) / 4294967296) != 0)=true:=bne_iff_ne.mpr c18;have avv:=aj.mk H;clear H;go_enter Tryz.func157,Tryz.ntmps157;go_upto_block 0 with (first|(go_at_call 179;(with_reducible refine (bits_LeadingZeros64.calls a2 sD _ A7.out).mono ?_);rintro e w' ⟨rfl,⟨nd,rfl⟩⟩;(try exact ⟨rfl,_,zN⟩)))
       repeat (go_quiet (first|(go_at_call 179;(with_reducible refine (bits_LeadingZeros64.calls a2 sD _ A7.out).mono ?_);rintro e w' ⟨rfl,⟨nd,rfl⟩⟩;(try exact ⟨rfl,_,zN⟩)));go_upto_block 0 with (first|(go_at_call 179;(with_reducible refine (bits_LeadingZeros64.calls a2 sD _ A7.out).mono ?_);rintro e w' ⟨rfl,⟨nd,rfl⟩⟩;(try exact ⟨rfl,_,zN⟩))))
       (try simp only [Act.put,List.setIfInBounds_toArray,List.set_cons_zero,List.set_cons_succ])
       go_cut [15] (fun v15 wc=>∃ (kq:Nat) (qP:Int),v15 = .int .u64 qP∧aj (aY.j2 kq dO ji8 ((dO) / 4294967296) (Go.bits .and .u64 (dO) 4294967295) (Go.bits .or .u64 (jZ) (rC)) ((o9) / 4294967296) (Go.bits .and .u64 (o9) 4294967295) qP=some (r1,r2))∧aj (kq≤k)∧dA w wc)
       case first =>
        have H:=avv.out;clear avv;have H':=aj.mk H;clear H;go_wp2;repeat (go_quiet (fail);try go_wp2)
        go_loopg [15,16] k (fun kq v15 v16 w'=>∃ (ade:Int) (aaz:Int),v15 = .int .u64 ade∧v16 = .int .u64 aaz∧aj (aY.l0 kq dO ji8 ((dO) / 4294967296) (Go.bits .and .u64 (dO) 4294967295) (Go.bits .or .u64 (jZ) (rC)) ((o9) / 4294967296) (Go.bits .and .u64 (o9) 4294967295) ade aaz=some (r1,r2))∧aj (kq≤k)∧dA w w')
        case atStart=>exact ⟨(IntKind.u64.wrap (Int.tdiv (Go.bits .or .u64 (jZ) (rC)) ((dO) / 4294967296))),(IntKind.u64.wrap ((Go.bits .or .u64 (jZ) (rC)) - (IntKind.u64.wrap ((IntKind.u64.wrap (Int.tdiv (Go.bits .or .u64 (jZ) (rC)) ((dO) / 4294967296)))*((dO) / 4294967296))))),(by first|rfl|(simp;done)|(simp only [← kT,← qO,← abE] <;> (first|rfl|simp))|(simp [*];done)),(by first|rfl|(simp;done)|(simp only [← kT,← qO,← abE] <;> (first|rfl|simp))|(simp [*];done)),H',⟨Nat.le_refl _⟩,zW⟩
        case round =>
         clear H';obtain ⟨ade,aaz,rfl,rfl,HA,HK1,⟨m1,rfl⟩⟩:=hrel;cases gk with
         | zero=>exact absurd HA.out (by simp [aY.l0])
         | succ k1 =>
          have H:=HA.out;clear HA;simp only [aY.l0] at H;have avw:=aj.mk H;clear H;go_upto_region 17 with (fail);repeat (go_quiet (fail);go_upto_region 17 with (fail))
          go_cut [78] (fun v78 wc=>∃ (kq:Nat) (aks:Bool),v78 = .bool aks∧aj (aY.j1 kq dO ji8 ((dO) / 4294967296) (Go.bits .and .u64 (dO) 4294967295) (Go.bits .or .u64 (jZ) (rC)) ((o9) / 4294967296) (Go.bits .and .u64 (o9) 4294967295) ade aaz aks=some (r1,r2))∧aj (kq≤k1)∧dA w wc)
          case first =>
           have H:=avw.out;clear avw;by_cases c21:ade≥4294967296
           ·rw [if_pos c21] at H;have afD:=decide_eq_true c21;clear c21
            (first|rw [afD]|(simp only [bP,bU];rw [afD])|skip)
            have H':=aj.mk H;clear H;go_wp2;repeat (go_quiet (fail);try go_wp2)
            go_meet
            case rel=>exact ⟨_,(true),zT,H',⟨by have:=HK1.out;first|omega|exact Nat.le_refl _⟩,zW⟩
           ·rw [if_neg c21] at H;have afD:=decide_eq_false c21;clear c21
            (first|rw [afD]|(simp only [bP,bU];rw [afD])|skip)
            have H':=aj.mk H;clear H;go_wp2;repeat (go_quiet (fail);try go_wp2)
            go_meet
            case rel=>exact ⟨_,(decide ((IntKind.u64.wrap (ade*(Go.bits .and .u64 (dO) 4294967295))) > (IntKind.u64.wrap ((IntKind.u64.wrap (4294967296*aaz))+((o9) / 4294967296))))),(by first|rfl|(simp;done)|(simp only [← kT,← abG] <;> (first|rfl|simp))|(simp [*];done)),H',⟨by have:=HK1.out;first|omega|exact Nat.le_refl _⟩,zW⟩
          case rest =>
           clear avw;obtain ⟨kq,aks,rfl,HA,ar2,⟨aIU,rfl⟩⟩:=hcut;cases kq with
           | zero=>exact absurd HA.out (by simp [aY.j1])
           | succ aDv =>
            have H:=HA.out;clear HA;simp only [aY.j1] at H;by_cases c22:aks=true
            ·subst c22;rw [if_pos rfl] at H;(try dsimp only at H);by_cases c23:(IntKind.u64.wrap (aaz+((dO) / 4294967296)))≥4294967296
             ·rw [if_pos c23] at H;have ajY:=decide_eq_true c23;clear c23;have H':=aj.mk H;clear H;go_wp2;repeat (go_quiet (fail);try go_wp2)
              go_meet
              case rel=>exact ⟨_,(IntKind.u64.wrap (ade - 1)),zT,H',⟨by have:=HK1.out;have:=ar2.out;first|omega|exact Nat.le_refl _⟩,zW⟩
             ·rw [if_neg c23] at H;have ajY:=decide_eq_false c23;clear c23;have H':=aj.mk H;clear H;go_wp2;repeat (go_quiet (fail);try go_wp2)
              go_roundg aDv
              case measure=>have:=HK1.out;have:=ar2.out;omega
              case rel=>exact ⟨(IntKind.u64.wrap (ade - 1)),(IntKind.u64.wrap (aaz+((dO) / 4294967296))),zT,(by first|rfl|(simp;done)|(simp only [← kT] <;> (first|rfl|simp))|(simp [*];done)),H',⟨by have:=HK1.out;have:=ar2.out;omega⟩,zW⟩
            ·replace c22:=Bool.eq_false_iff.mpr c22;subst c22;rw [if_neg (show ¬ (false=true) by decide)] at H;(try dsimp only at H);have H':=aj.mk H;clear H;go_wp2;repeat (go_quiet (fail);try go_wp2)
             go_meet
             case rel=>exact ⟨_,(ade),zT,H',⟨by have:=HK1.out;have:=ar2.out;first|omega|exact Nat.le_refl _⟩,zW⟩
       case rest =>
        clear avv;obtain ⟨kq,qP,rfl,HA,ar4,⟨aIV,rfl⟩⟩:=hcut;cases kq with
        | zero=>exact absurd HA.out (by simp [aY.j2])
        | succ azC =>
         have H:=HA.out;clear HA;simp only [aY.j2] at H;by_cases c24:((dO) / 4294967296)=0
         ·rw [if_pos c24] at H;exact absurd H (by simp)
         ·rw [if_neg c24] at H;have axa:(((dO) / 4294967296) == 0)=false:=beq_eq_false_iff_ne.mpr c24;have aHZ:(((dO) / 4294967296) != 0)=true:=bne_iff_ne.mpr c24;have H':=aj.mk H;clear H;go_wp2;repeat (go_quiet (fail);try go_wp2)
          go_loopg [16,18] azC (fun kq v16 v18 w'=>∃ (afK:Int) (xO:Int),v16 = .int .u64 afK∧v18 = .int .u64 xO∧aj (aY.l1 kq dO ji8 ((dO) / 4294967296) (Go.bits .and .u64 (dO) 4294967295) (Go.bits .and .u64 (o9) 4294967295) qP afK (IntKind.u64.wrap ((IntKind.u64.wrap ((IntKind.u64.wrap ((Go.bits .or .u64 (jZ) (rC))*4294967296))+((o9) / 4294967296))) - (IntKind.u64.wrap (qP*dO)))) xO=some (r1,r2))∧aj (kq≤azC)∧dA w w')
          case atStart=>exact ⟨(IntKind.u64.wrap ((IntKind.u64.wrap ((IntKind.u64.wrap ((IntKind.u64.wrap ((Go.bits .or .u64 (jZ) (rC))*4294967296))+((o9) / 4294967296))) - (IntKind.u64.wrap (qP*dO)))) - (IntKind.u64.wrap ((IntKind.u64.wrap (Int.tdiv (IntKind.u64.wrap ((IntKind.u64.wrap ((IntKind.u64.wrap ((Go.bits .or .u64 (jZ) (rC))*4294967296))+((o9) / 4294967296))) - (IntKind.u64.wrap (qP*dO)))) ((dO) / 4294967296)))*((dO) / 4294967296))))),(IntKind.u64.wrap (Int.tdiv (IntKind.u64.wrap ((IntKind.u64.wrap ((IntKind.u64.wrap ((Go.bits .or .u64 (jZ) (rC))*4294967296))+((o9) / 4294967296))) - (IntKind.u64.wrap (qP*dO)))) ((dO) / 4294967296))),(by first|rfl|(simp;done)|(simp only [← kT,← qO,← abE,← abG] <;> (first|rfl|simp))|(simp [*];done)),(by first|rfl|(simp;done)|(simp only [← kT,← qO,← abE,← abG] <;> (first|rfl|simp))|(simp [*];done)),H',⟨Nat.le_refl _⟩,zW⟩
          case round =>
           clear H';obtain ⟨afK,xO,rfl,rfl,HA,HK2,⟨m2,rfl⟩⟩:=hrel;cases gk with
           | zero=>exact absurd HA.out (by simp [aY.l1])
           | succ k2 =>
            have H:=HA.out;clear HA;simp only [aY.l1] at H;have avx:=aj.mk H;clear H;go_upto_region 24 with (fail);repeat (go_quiet (fail);go_upto_region 24 with (fail))
            go_cut [113] (fun aDw wc=>∃ (kq:Nat) (ahZ:Bool),aDw = .bool ahZ∧aj (aY.j4 kq dO ji8 ((dO) / 4294967296) (Go.bits .and .u64 (dO) 4294967295) (Go.bits .and .u64 (o9) 4294967295) qP afK (IntKind.u64.wrap ((IntKind.u64.wrap ((IntKind.u64.wrap ((Go.bits .or .u64 (jZ) (rC))*4294967296))+((o9) / 4294967296))) - (IntKind.u64.wrap (qP*dO)))) xO ahZ=some (r1,r2))∧aj (kq≤k2)∧dA w wc)
            case first =>
             have H:=avx.out;clear avx;by_cases c26:xO≥4294967296
             ·rw [if_pos c26] at H;have afE:=decide_eq_true c26;clear c26
              (first|rw [afE]|(simp only [bP,bU];rw [afE])|skip)
              have H':=aj.mk H;clear H;go_wp2;repeat (go_quiet (fail);try go_wp2)
              go_meet
              case rel=>exact ⟨_,(true),zT,H',⟨by have:=ar4.out;have:=HK2.out;first|omega|exact Nat.le_refl _⟩,zW⟩
             ·rw [if_neg c26] at H;have afE:=decide_eq_false c26;clear c26
              (first|rw [afE]|(simp only [bP,bU];rw [afE])|skip)
              have H':=aj.mk H;clear H;go_wp2;repeat (go_quiet (fail);try go_wp2)
              go_meet
              case rel=>exact ⟨_,(decide ((IntKind.u64.wrap (xO*(Go.bits .and .u64 (dO) 4294967295))) > (IntKind.u64.wrap ((IntKind.u64.wrap (4294967296*afK))+(Go.bits .and .u64 (o9) 4294967295))))),(by first|rfl|(simp;done)|(simp only [← kT,← abG] <;> (first|rfl|simp))|(simp [*];done)),H',⟨by have:=ar4.out;have:=HK2.out;first|omega|exact Nat.le_refl _⟩,zW⟩
            case rest =>
             clear avx;obtain ⟨kq,ahZ,rfl,HA,azD,⟨aIW,rfl⟩⟩:=hcut;cases kq with
             | zero=>exact absurd HA.out (by simp [aY.j4])
             | succ aDx =>
              have H:=HA.out;clear HA;simp only [aY.j4] at H;by_cases c27:ahZ=true
              ·subst c27;rw [if_pos rfl] at H;(try dsimp only at H);by_cases c28:(IntKind.u64.wrap (afK+((dO) / 4294967296)))≥4294967296
               ·rw [if_pos c28] at H;have arL:=decide_eq_true c28;clear c28;by_cases c29:0≤ji8
                ·rw [if_pos c29] at H;have ari:=eq_true c29;have aH0:=decide_eq_true c29;clear c29;obtain ⟨avy,akt⟩:∃ j_:Int,(shr .u64 (IntKind.u64.wrap ((IntKind.u64.wrap ((IntKind.u64.wrap ((IntKind.u64.wrap ((IntKind.u64.wrap ((IntKind.u64.wrap ((Go.bits .or .u64 (jZ) (rC))*4294967296))+((o9) / 4294967296))) - (IntKind.u64.wrap (qP*dO))))*4294967296))+(Go.bits .and .u64 (o9) 4294967295))) - (IntKind.u64.wrap ((IntKind.u64.wrap (xO - 1))*dO)))) ji8)=j_:=⟨_,rfl⟩;replace H:(some (IntKind.u64.wrap ((IntKind.u64.wrap (qP*4294967296))+(IntKind.u64.wrap (xO - 1))),avy))=some (r1,r2):=(by first|(rw [akt] at H;exact H)|(simp only [akt] at H ⊢;exact H));have aFH:((IntKind.u64.wrap ((IntKind.u64.wrap ((IntKind.u64.wrap ((IntKind.u64.wrap ((IntKind.u64.wrap ((IntKind.u64.wrap ((Go.bits .or .u64 (jZ) (rC))*4294967296))+((o9) / 4294967296))) - (IntKind.u64.wrap (qP*dO))))*4294967296))+(Go.bits .and .u64 (o9) 4294967295))) - (IntKind.u64.wrap ((IntKind.u64.wrap (xO - 1))*dO)))) / 2 ^ min ji8.toNat 64)=avy:=akt;have aFI:ji8≤64→((IntKind.u64.wrap ((IntKind.u64.wrap ((IntKind.u64.wrap ((IntKind.u64.wrap ((IntKind.u64.wrap ((IntKind.u64.wrap ((Go.bits .or .u64 (jZ) (rC))*4294967296))+((o9) / 4294967296))) - (IntKind.u64.wrap (qP*dO))))*4294967296))+(Go.bits .and .u64 (o9) 4294967295))) - (IntKind.u64.wrap ((IntKind.u64.wrap (xO - 1))*dO)))) / 2 ^ ji8.toNat)=avy:=rF akt;simp only [Option.some.injEq,Prod.mk.injEq] at H;obtain ⟨rfl,rfl⟩:=H;go_wp2;repeat (go_quiet (fail);try go_wp2)
                 go_ret2;exact ⟨by first|rfl|(simp;done)|(simp only [← sG,← kT,← qO,← akr,← abE,← abG,← akt] <;> (first|rfl|simp))|(simp [*];done),zW⟩
                ·rw [if_neg c29] at H;exact absurd H (by simp)
               ·rw [if_neg c28] at H;have arL:=decide_eq_false c28;clear c28;have H':=aj.mk H;clear H;go_wp2;repeat (go_quiet (fail);try go_wp2)
                go_roundg aDx
                case measure=>have:=ar4.out;have:=HK2.out;have:=azD.out;omega
                case rel=>exact ⟨(IntKind.u64.wrap (afK+((dO) / 4294967296))),(IntKind.u64.wrap (xO - 1)),(by first|rfl|(simp;done)|(simp only [← kT] <;> (first|rfl|simp))|(simp [*];done)),zT,H',⟨by have:=ar4.out;have:=HK2.out;have:=azD.out;omega⟩,zW⟩
              ·replace c27:=Bool.eq_false_iff.mpr c27;subst c27;rw [if_neg (show ¬ (false=true) by decide)] at H;(try dsimp only at H);by_cases c31:0≤ji8
               ·rw [if_pos c31] at H;have aH1:=eq_true c31;have aH2:=decide_eq_true c31;clear c31;obtain ⟨avz,aku⟩:∃ j_:Int,(shr .u64 (IntKind.u64.wrap ((IntKind.u64.wrap ((IntKind.u64.wrap ((IntKind.u64.wrap ((IntKind.u64.wrap ((IntKind.u64.wrap ((Go.bits .or .u64 (jZ) (rC))*4294967296))+((o9) / 4294967296))) - (IntKind.u64.wrap (qP*dO))))*4294967296))+(Go.bits .and .u64 (o9) 4294967295))) - (IntKind.u64.wrap (xO*dO)))) ji8)=j_:=⟨_,rfl⟩;replace H:(some (IntKind.u64.wrap ((IntKind.u64.wrap (qP*4294967296))+xO),avz))=some (r1,r2):=(by first|(rw [aku] at H;exact H)|(simp only [aku] at H ⊢;exact H));have aFJ:((IntKind.u64.wrap ((IntKind.u64.wrap ((IntKind.u64.wrap ((IntKind.u64.wrap ((IntKind.u64.wrap ((IntKind.u64.wrap ((Go.bits .or .u64 (jZ) (rC))*4294967296))+((o9) / 4294967296))) - (IntKind.u64.wrap (qP*dO))))*4294967296))+(Go.bits .and .u64 (o9) 4294967295))) - (IntKind.u64.wrap (xO*dO)))) / 2 ^ min ji8.toNat 64)=avz:=aku;have aFK:ji8≤64→((IntKind.u64.wrap ((IntKind.u64.wrap ((IntKind.u64.wrap ((IntKind.u64.wrap ((IntKind.u64.wrap ((IntKind.u64.wrap ((Go.bits .or .u64 (jZ) (rC))*4294967296))+((o9) / 4294967296))) - (IntKind.u64.wrap (qP*dO))))*4294967296))+(Go.bits .and .u64 (o9) 4294967295))) - (IntKind.u64.wrap (xO*dO)))) / 2 ^ ji8.toNat)=avz:=rF aku;simp only [Option.some.injEq,Prod.mk.injEq] at H;obtain ⟨rfl,rfl⟩:=H;go_wp2;repeat (go_quiet (fail);try go_wp2)
                go_ret2;exact ⟨by first|rfl|(simp;done)|(simp only [← sG,← kT,← qO,← akr,← abE,← abG,← aku] <;> (first|rfl|simp))|(simp [*];done),zW⟩
               ·rw [if_neg c31] at H;exact absurd H (by simp)
     ·rw [if_neg c14] at H;exact absurd H (by simp)
    ·rw [if_neg c9] at H;exact absurd H (by simp)
def bG.j0:Nat→Bool→Int→Int→Bool→Option (Int)
 | 0,_,_,_,_=>none
 | k+1,x9,x11,x14,x60=>if x60=true then ((dG.f k (rH x11 1 0) (rG x11 1 0) x9).bind fun aoX=>(some aoX)) else ((dG.f k (rH x11 x14 0) (rG x11 x14 0) x9).bind fun t138=>(some t138))
def bG.f (k:Nat) (a0 a1 a2:Int):Option (Int):=if a2=0 then (some 0) else ((lQ.f a0 a1).bind fun aaE=>((pG.f a2).bind fun aao=>(if aaE.1≥aao then ((dG.f k 1 0 (aaE.2.2 != (decide (a2 < 0)))).bind fun avA=>(some avA)) else ((aY.f k aaE.1 aaE.2.1 aao).bind fun abH=>(if (aaE.2.2 != (decide (a2 < 0)))=true then (if abH.2 > (IntKind.u64.wrap (aao - abH.2)) then (bG.j0 k (aaE.2.2 != (decide (a2 < 0))) abH.1 0 true) else (if ((aaE.2.2 != (decide (a2 < 0)))=true) then (bG.j0 k (aaE.2.2 != (decide (a2 < 0))) abH.1 0 false) else (bG.j0 k (aaE.2.2 != (decide (a2 < 0))) abH.1 0 (decide (abH.2≥(IntKind.u64.wrap (aao - abH.2))))))) else (if ((aaE.2.2 != (decide (a2 < 0)))=true) then (bG.j0 k (aaE.2.2 != (decide (a2 < 0))) abH.1 0 false) else (bG.j0 k (aaE.2.2 != (decide (a2 < 0))) abH.1 0 (decide (abH.2≥(IntKind.u64.wrap (aao - abH.2)))))))))))
theorem bG.jG:∀ k,(∀ y0 y1 y2 y3,LeO (bG.j0 k y0 y1 y2 y3) (bG.j0 (k+1) y0 y1 y2 y3))
 | 0=>fun _ _ _ _ r h=>by simp [bG.j0] at h
 | k+1=>by
  have ih0:=bG.jG k
  ·intro y0 y1 y2 y3;unfold bG.j0;repeat' (with_reducible first|exact ih0 _ _ _ _|exact aY.mono _ _ _ _|exact dG.mono _ _ _ _|exact zM|refine LeO.ite ?_ ?_|refine LeO.bind ?_ (fun _ => ?_))
theorem bG.mono:∀ a0 a1 a2 k,LeO (bG.f k a0 a1 a2) (bG.f (k+1) a0 a1 a2):=by
 intro a0 a1 a2 k;have ih0:=bG.jG k;unfold bG.f;repeat' (with_reducible first|exact ih0 _ _ _ _|exact aY.mono _ _ _ _|exact dG.mono _ _ _ _|exact zM|refine LeO.ite ?_ ?_|refine LeO.bind ?_ (fun _ => ?_))
theorem bG.calls (k:Nat) (a0 a1 a2 r:Int) (w:World) (h:bG.f k a0 a1 a2=some r) :
  Calls Tryz.prog 130 #[.int .i64 a0,.int .i64 a1,.int .i64 a2] w fun e w'=>e = .returned (.int .i64 r)∧dA w w':=by
 have H:=h;clear h;unfold bG.f at H;by_cases c4:a2=0
 ·rw [if_pos c4] at H;have fH:(a2 == 0)=true:=beq_iff_eq.mpr c4;have aaJ:(a2 != 0)=false:=bne_eq_false_iff_eq.mpr c4;clear c4;obtain rfl:=Option.some.inj H;go_enter Tryz.func130,Tryz.ntmps130;go_wp2;go_ret;exact ⟨zT,zW⟩
 ·rw [if_neg c4] at H;have fH:(a2 == 0)=false:=beq_eq_false_iff_ne.mpr c4;have aaJ:(a2 != 0)=true:=bne_iff_ne.mpr c4;replace H:=zO H;obtain ⟨⟨t130,t131,nV⟩,A5,H⟩:=H;try dsimp only at H
  replace H:=zO H;obtain ⟨aao,A6,H⟩:=H;try dsimp only at H
  by_cases c7:t130≥aao
  ·rw [if_pos c7] at H;have jr:=decide_eq_true c7;clear c7;replace H:=zO H;obtain ⟨avA,A8,H⟩:=H;try dsimp only at H
   obtain rfl:=Option.some.inj H;go_enter Tryz.func130,Tryz.ntmps130;go_wp2_with (first|((with_reducible refine ay (f:=154) rfl ?_);refine aH (some 21) rfl rfl Tryz.func154 (by kernel_rfl) rfl #[.int .i64 a0,.int .i64 a1] rfl zL ?_;(with_reducible refine (lQ.calls a0 a1 t130 t131 nV _ A5.out).mono ?_);rintro e w' ⟨rfl,⟨nd,rfl⟩⟩;refine ⟨_,rfl,?_⟩)|((with_reducible refine ay (f:=155) rfl ?_);refine aH (some 26) rfl rfl Tryz.func155 (by kernel_rfl) rfl #[.int .i64 a2] rfl zL ?_;(with_reducible refine (pG.calls a2 aao _ A6.out).mono ?_);rintro e w' ⟨rfl,⟨nd,rfl⟩⟩;refine ⟨_,rfl,?_⟩)|((with_reducible refine ay (f:=156) rfl ?_);refine aH (some 35) rfl rfl Tryz.func156 (by kernel_rfl) rfl #[.int .u64 1,.int .u64 0,.bool (nV != (decide (a2 < 0)))] rfl zL ?_;(with_reducible refine (dG.calls k 1 0 (nV != (decide (a2 < 0))) avA _ A8.out).mono ?_);rintro e w' ⟨rfl,⟨nd,rfl⟩⟩;refine ⟨_,rfl,?_⟩));go_ret;exact ⟨zT,zW⟩
  ·rw [if_neg c7] at H;have jr:=decide_eq_false c7;clear c7;replace H:=zO H;obtain ⟨⟨wZ,alK⟩,A9,H⟩:=H;try dsimp only at H
   rcases Bool.eq_false_or_eq_true (nV != (decide (a2 < 0))) with hsv|hsv
   ·have vw:(nV != (decide (a2 < 0)))=true:=hsv;have arD:(nV == (decide (a2 < 0)))=false:=(by simpa using hsv);have ai1:=aj.mk H;clear H;go_enter Tryz.func130,Tryz.ntmps130;go_upto_region 11 with (first|((with_reducible refine ay (f:=154) rfl ?_);refine aH (some 21) rfl rfl Tryz.func154 (by kernel_rfl) rfl #[.int .i64 a0,.int .i64 a1] rfl zL ?_;(with_reducible refine (lQ.calls a0 a1 t130 t131 nV _ A5.out).mono ?_);rintro e w' ⟨rfl,⟨nd,rfl⟩⟩;refine ⟨_,rfl,?_⟩)|((with_reducible refine ay (f:=155) rfl ?_);refine aH (some 26) rfl rfl Tryz.func155 (by kernel_rfl) rfl #[.int .i64 a2] rfl zL ?_;(with_reducible refine (pG.calls a2 aao _ A6.out).mono ?_);rintro e w' ⟨rfl,⟨nd,rfl⟩⟩;refine ⟨_,rfl,?_⟩)|((with_reducible refine ay (f:=157) rfl ?_);refine aH (some 40) rfl rfl Tryz.func157 (by kernel_rfl) rfl #[.int .u64 t130,.int .u64 t131,.int .u64 aao] rfl zL ?_;(with_reducible refine (aY.calls k t130 t131 aao wZ alK _ A9.out).mono ?_);rintro e w' ⟨rfl,⟨nd,rfl⟩⟩;refine ⟨_,rfl,?_⟩))
    (try simp only [Act.put,List.setIfInBounds_toArray,List.set_cons_zero,List.set_cons_succ])
    go_cut [60] (fun v60 wc=>∃ (kq:Nat) (adf:Bool),v60 = .bool adf∧aj (bG.j0 kq (nV != (decide (a2 < 0))) wZ 0 adf=some r)∧aj (kq≤k)∧dA w wc)
    case first =>
     have H:=ai1.out;clear ai1;by_cases c11:(nV != (decide (a2 < 0)))=true
     ·rw [if_pos c11] at H;have jv:(nV != (decide (a2 < 0)))=true:=c11
      (try (have zH:decide (nV=(decide (a2 < 0)))=false:=by simpa using c11))
      (try (have arE:(nV == (decide (a2 < 0)))=false:=by simpa using c11))
      (try (have aBL:¬ (nV=(decide (a2 < 0))):=by simpa using c11))
      clear c11
      (first|rw [jv]|(simp only [bP,bU];rw [jv])|skip)
      by_cases c12:alK > (IntKind.u64.wrap (aao - alK))
      ·rw [if_pos c12] at H;have yL:=decide_eq_true c12;clear c12;have H':=aj.mk H;clear H;go_wp2;go_meet
       case rel=>exact ⟨_,(true),zT,H',⟨by first|omega|exact Nat.le_refl _⟩,zW⟩
      ·rw [if_neg c12] at H;have yL:=decide_eq_false c12;clear c12;by_cases c13:((nV != (decide (a2 < 0)))=true)
       ·rw [if_pos c13] at H;have zQ:(nV != (decide (a2 < 0)))=true:=c13
        (try (have akv:decide (nV=(decide (a2 < 0)))=false:=by simpa using c13))
        (try (have aH3:(nV == (decide (a2 < 0)))=false:=by simpa using c13))
        (try (have aH4:¬ (nV=(decide (a2 < 0))):=by simpa using c13))
        clear c13;have H':=aj.mk H;clear H;go_wp2;go_meet
        case rel=>exact ⟨_,(false),zT,H',⟨by first|omega|exact Nat.le_refl _⟩,zW⟩
       ·rw [if_neg c13] at H;have zQ:(nV != (decide (a2 < 0)))=false:=(by simpa using c13);exact absurd (vw.symm.trans zQ) (by decide)
     ·rw [if_neg c11] at H;have jv:(nV != (decide (a2 < 0)))=false:=(by simpa using c11);exact absurd (vw.symm.trans jv) (by decide)
    case rest =>
     clear ai1;obtain ⟨kq,adf,rfl,HA,HJ9,⟨mc9,rfl⟩⟩:=hcut;cases kq with
     | zero=>exact absurd HA.out (by simp [bG.j0])
     | succ kj9 =>
      have H:=HA.out;clear HA;simp only [bG.j0] at H;by_cases c15:adf=true
      ·subst c15;rw [if_pos rfl] at H;(try dsimp only at H);replace H:=zO H;obtain ⟨aoX,A16,H⟩:=H;try dsimp only at H
       obtain rfl:=Option.some.inj H;go_wp2_with (first|((with_reducible refine ay (f:=156) rfl ?_);refine aH (some 70) rfl rfl Tryz.func156 (by kernel_rfl) rfl #[.int .u64 (rH wZ 1 0),.int .u64 (rG wZ 1 0),.bool true] rfl zL ?_;(with_reducible refine (dG.calls kj9 (rH wZ 1 0) (rG wZ 1 0) true aoX _ (by have h:=A16.out;rw [vw] at h;exact h)).mono ?_);rintro e w' ⟨rfl,⟨nd,rfl⟩⟩;refine ⟨_,rfl,?_⟩));go_ret;exact ⟨zT,zW⟩
      ·replace c15:=Bool.eq_false_iff.mpr c15;subst c15;rw [if_neg (show ¬ (false=true) by decide)] at H;(try dsimp only at H);replace H:=zO H;obtain ⟨t138,A17,H⟩:=H;try dsimp only at H
       obtain rfl:=Option.some.inj H;go_wp2_with (first|((with_reducible refine ay (f:=156) rfl ?_);refine aH (some 70) rfl rfl Tryz.func156 (by kernel_rfl) rfl #[.int .u64 (rH wZ 0 0),.int .u64 (rG wZ 0 0),.bool true] rfl zL ?_;(with_reducible refine (dG.calls kj9 (rH wZ 0 0) (rG wZ 0 0) true t138 _ (by have h:=A17.out;rw [vw] at h;exact h)).mono ?_);rintro e w' ⟨rfl,⟨nd,rfl⟩⟩;refine ⟨_,rfl,?_⟩));go_ret;exact ⟨zT,zW⟩
   ·have vw:(nV != (decide (a2 < 0)))=false:=hsv;have arD:(nV == (decide (a2 < 0)))=true:=(by simpa using hsv);have ai1:=aj.mk H;clear H;go_enter Tryz.func130,Tryz.ntmps130;go_upto_region 11 with (first|((with_reducible refine ay (f:=154) rfl ?_);refine aH (some 21) rfl rfl Tryz.func154 (by kernel_rfl) rfl #[.int .i64 a0,.int .i64 a1] rfl zL ?_;(with_reducible refine (lQ.calls a0 a1 t130 t131 nV _ A5.out).mono ?_);rintro e w' ⟨rfl,⟨nd,rfl⟩⟩;refine ⟨_,rfl,?_⟩)|((with_reducible refine ay (f:=155) rfl ?_);refine aH (some 26) rfl rfl Tryz.func155 (by kernel_rfl) rfl #[.int .i64 a2] rfl zL ?_;(with_reducible refine (pG.calls a2 aao _ A6.out).mono ?_);rintro e w' ⟨rfl,⟨nd,rfl⟩⟩;refine ⟨_,rfl,?_⟩)|((with_reducible refine ay (f:=157) rfl ?_);refine aH (some 40) rfl rfl Tryz.func157 (by kernel_rfl) rfl #[.int .u64 t130,.int .u64 t131,.int .u64 aao] rfl zL ?_;(with_reducible refine (aY.calls k t130 t131 aao wZ alK _ A9.out).mono ?_);rintro e w' ⟨rfl,⟨nd,rfl⟩⟩;refine ⟨_,rfl,?_⟩))
    (try simp only [Act.put,List.setIfInBounds_toArray,List.set_cons_zero,List.set_cons_succ])
    go_cut [60] (fun v60 wc=>∃ (kq:Nat) (adf:Bool),v60 = .bool adf∧aj (bG.j0 kq (nV != (decide (a2 < 0))) wZ 0 adf=some r)∧aj (kq≤k)∧dA w wc)
    case first =>
     have H:=ai1.out;clear ai1;by_cases c11:(nV != (decide (a2 < 0)))=true
     ·rw [if_pos c11] at H;have jv:(nV != (decide (a2 < 0)))=true:=c11;exact absurd (vw.symm.trans jv) (by decide)
     ·rw [if_neg c11] at H;have jv:(nV != (decide (a2 < 0)))=false:=by simpa using c11
      (try (have zH:decide (nV=(decide (a2 < 0)))=true:=by simpa using c11))
      (try (have arE:(nV == (decide (a2 < 0)))=true:=by simpa using c11))
      clear c11
      (first|rw [jv]|(simp only [bP,bU];rw [jv])|skip)
      by_cases c14:((nV != (decide (a2 < 0)))=true)
      ·rw [if_pos c14] at H;have acn:(nV != (decide (a2 < 0)))=true:=c14;exact absurd (vw.symm.trans acn) (by decide)
      ·rw [if_neg c14] at H;have acn:(nV != (decide (a2 < 0)))=false:=by simpa using c14
       (try (have ani:decide (nV=(decide (a2 < 0)))=true:=by simpa using c14))
       (try (have aH5:(nV == (decide (a2 < 0)))=true:=by simpa using c14))
       clear c14;have H':=aj.mk H;clear H;go_wp2;go_meet
       case rel=>exact ⟨_,(decide (alK≥(IntKind.u64.wrap (aao - alK)))),zT,H',⟨by first|omega|exact Nat.le_refl _⟩,zW⟩
    case rest =>
     clear ai1;obtain ⟨kq,adf,rfl,HA,HJ9,⟨mc9,rfl⟩⟩:=hcut;cases kq with
     | zero=>exact absurd HA.out (by simp [bG.j0])
     | succ kj9 =>
      have H:=HA.out;clear HA;simp only [bG.j0] at H;by_cases c15:adf=true
      ·subst c15;rw [if_pos rfl] at H;(try dsimp only at H);replace H:=zO H;obtain ⟨aoX,A16,H⟩:=H;try dsimp only at H
       obtain rfl:=Option.some.inj H;go_wp2_with (first|((with_reducible refine ay (f:=156) rfl ?_);refine aH (some 70) rfl rfl Tryz.func156 (by kernel_rfl) rfl #[.int .u64 (rH wZ 1 0),.int .u64 (rG wZ 1 0),.bool false] rfl zL ?_;(with_reducible refine (dG.calls kj9 (rH wZ 1 0) (rG wZ 1 0) false aoX _ (by have h:=A16.out;rw [vw] at h;exact h)).mono ?_);rintro e w' ⟨rfl,⟨nd,rfl⟩⟩;refine ⟨_,rfl,?_⟩));go_ret;exact ⟨zT,zW⟩
      ·replace c15:=Bool.eq_false_iff.mpr c15;subst c15;rw [if_neg (show ¬ (false=true) by decide)] at H;(try dsimp only at H);replace H:=zO H;obtain ⟨t138,A17,H⟩:=H;try dsimp only at H
       obtain rfl:=Option.some.inj H;go_wp2_with (first|((with_reducible refine ay (f:=156) rfl ?_);refine aH (some 70) rfl rfl Tryz.func156 (by kernel_rfl) rfl #[.int .u64 (rH wZ 0 0),.int .u64 (rG wZ 0 0),.bool false] rfl zL ?_;(with_reducible refine (dG.calls kj9 (rH wZ 0 0) (rG wZ 0 0) false t138 _ (by have h:=A17.out;rw [vw] at h;exact h)).mono ?_);rintro e w' ⟨rfl,⟨nd,rfl⟩⟩;refine ⟨_,rfl,?_⟩));go_ret;exact ⟨zT,zW⟩
def gK.j0:Nat→Int→Int→Bool→Option (Int)
 | 0,_,_,_=>none
 | k+1,x0,x1,x23=>if x23=true then (some 0) else (if (mx x0 (wrap64 (-x0)))≥x1 then ((bG.f k (wrap64 ((wrap64 ((wrap64 ((wrap64 ((wrap64 ((wrap64 (-(mx x0 (wrap64 (-x0)))))*(mx x0 (wrap64 (-x0)))))*(mx x0 (wrap64 (-x0)))))+(wrap64 ((wrap64 ((wrap64 (5*(mx x0 (wrap64 (-x0)))))*(mx x0 (wrap64 (-x0)))))*x1)))) - (wrap64 ((wrap64 ((wrap64 (8*(mx x0 (wrap64 (-x0)))))*x1))*x1))))+(wrap64 ((wrap64 ((wrap64 (4*x1))*x1))*x1)))) 1073741824 (wrap64 ((wrap64 ((wrap64 (2*x1))*x1))*x1))).bind fun t139=>(some t139)) else ((bG.f k (wrap64 ((wrap64 ((wrap64 ((wrap64 ((wrap64 (3*(mx x0 (wrap64 (-x0)))))*(mx x0 (wrap64 (-x0)))))*(mx x0 (wrap64 (-x0))))) - (wrap64 ((wrap64 ((wrap64 (5*(mx x0 (wrap64 (-x0)))))*(mx x0 (wrap64 (-x0)))))*x1))))+(wrap64 ((wrap64 ((wrap64 (2*x1))*x1))*x1)))) 1073741824 (wrap64 ((wrap64 ((wrap64 (2*x1))*x1))*x1))).bind fun aoY=>(some aoY)))
def gK.f (k:Nat) (a0 a1:Int):Option (Int):=if a1 < 1 then (gK.j0 k a0 a1 true) else (if a1 > 262144 then (gK.j0 k a0 a1 true) else (if a0≥(wrap64 (2*a1)) then (gK.j0 k a0 a1 true) else (gK.j0 k a0 a1 (decide (a0≤(wrap64 ((-2)*a1)))))))
theorem gK.jG:∀ k,(∀ y0 y1 y2,LeO (gK.j0 k y0 y1 y2) (gK.j0 (k+1) y0 y1 y2))
 | 0=>fun _ _ _ r h=>by simp [gK.j0] at h
 | k+1=>by
  have ih0:=gK.jG k
  ·intro y0 y1 y2;unfold gK.j0;repeat' (with_reducible first|exact ih0 _ _ _|exact bG.mono _ _ _ _|exact zM|refine LeO.ite ?_ ?_|refine LeO.bind ?_ (fun _ => ?_))
theorem gK.mono:∀ a0 a1 k,LeO (gK.f k a0 a1) (gK.f (k+1) a0 a1):=by
 intro a0 a1 k;have ih0:=gK.jG k;unfold gK.f;repeat' (with_reducible first|exact ih0 _ _ _|exact bG.mono _ _ _ _|exact zM|refine LeO.ite ?_ ?_|refine LeO.bind ?_ (fun _ => ?_))
theorem gK.calls (k:Nat) (a0 a1 r:Int) (w:World) (h:gK.f k a0 a1=some r) :
  Calls Tryz.prog 108 #[.int .i64 a0,.int .i64 a1] w fun e w'=>e = .returned (.int .i64 r)∧Below w.heap.size w w':=by
 have HB:=aj.mk (Below.refl w.heap.size w);have H:=h;clear h;unfold gK.f at H;have HC3:=aj.mk H;clear H;go_enter Tryz.func108,Tryz.ntmps108;go_upto_region 1 with (fail);go_cut [23] (fun v23 wc=>∃ (kq:Nat) (anq:Bool),v23 = .bool anq∧aj (gK.j0 kq a0 a1 anq=some r)∧aj (kq≤k)∧aj (Below w.heap.size w wc))
 case first =>
  have H:=HC3.out;clear HC3;by_cases c4:a1 < 1
  ·rw [if_pos c4] at H;have fH:=decide_eq_true c4;clear c4
   (first|rw [fH]|(simp only [bP,bU];rw [fH])|skip)
   have H':=aj.mk H;clear H;go_wp2;go_meet
   case rel=>exact ⟨_,(true),zT,H',⟨by first|omega|exact Nat.le_refl _⟩,⟨zB⟩⟩
  ·rw [if_neg c4] at H;have fH:=decide_eq_false c4;clear c4
   (first|rw [fH]|(simp only [bP,bU];rw [fH])|skip)
   by_cases c5:a1 > 262144
   ·rw [if_pos c5] at H;have gJ:=decide_eq_true c5;clear c5;have H':=aj.mk H;clear H;go_wp2;go_meet
    case rel=>exact ⟨_,(true),zT,H',⟨by first|omega|exact Nat.le_refl _⟩,⟨zB⟩⟩
   ·rw [if_neg c5] at H;have gJ:=decide_eq_false c5;clear c5;by_cases c6:a0≥(wrap64 (2*a1))
    ·rw [if_pos c6] at H;have gI:=decide_eq_true c6;clear c6;have H':=aj.mk H;clear H;go_wp2;go_meet
     case rel=>exact ⟨_,(true),zT,H',⟨by first|omega|exact Nat.le_refl _⟩,⟨zB⟩⟩
    ·rw [if_neg c6] at H;have gI:=decide_eq_false c6;clear c6;have H':=aj.mk H;clear H;go_wp2;go_meet
     case rel=>exact ⟨_,(decide (a0≤(wrap64 ((-2)*a1)))),zT,H',⟨by first|omega|exact Nat.le_refl _⟩,⟨zB⟩⟩
 case rest =>
  clear HC3;obtain ⟨kq,anq,rfl,HA,HJ2,HB⟩:=hcut;cases kq with
  | zero=>exact absurd HA.out (by simp [gK.j0])
  | succ kj2 =>
   have H:=HA.out;clear HA;simp only [gK.j0] at H;by_cases c7:anq=true
   ·subst c7;rw [if_pos rfl] at H;(try dsimp only at H);obtain rfl:=Option.some.inj H;go_wp2;go_ret;exact ⟨zS,zB⟩
   ·replace c7:=Bool.eq_false_iff.mpr c7;subst c7;rw [if_neg (show ¬ (false=true) by decide)] at H;(try dsimp only at H);obtain ⟨ji8,sG⟩:∃ j_:Int,(mx a0 (wrap64 (-a0)))=j_:=⟨_,rfl⟩;replace H:(if (ji8)≥a1 then ((bG.f kj2 (wrap64 ((wrap64 ((wrap64 ((wrap64 ((wrap64 ((wrap64 (-(ji8)))*(ji8)))*(ji8)))+(wrap64 ((wrap64 ((wrap64 (5*(ji8)))*(ji8)))*a1)))) - (wrap64 ((wrap64 ((wrap64 (8*(ji8)))*a1))*a1))))+(wrap64 ((wrap64 ((wrap64 (4*a1))*a1))*a1)))) 1073741824 (wrap64 ((wrap64 ((wrap64 (2*a1))*a1))*a1))).bind fun t139=>(some t139)) else ((bG.f kj2 (wrap64 ((wrap64 ((wrap64 ((wrap64 ((wrap64 (3*(ji8)))*(ji8)))*(ji8))) - (wrap64 ((wrap64 ((wrap64 (5*(ji8)))*(ji8)))*a1))))+(wrap64 ((wrap64 ((wrap64 (2*a1))*a1))*a1)))) 1073741824 (wrap64 ((wrap64 ((wrap64 (2*a1))*a1))*a1))).bind fun aoY=>(some aoY)))=some r:=(by first|(rw [sG] at H;exact H)|(simp only [sG] at H ⊢;exact H));have axl:(if a0 < (wrap64 (-a0)) then (wrap64 (-a0)) else a0)=ji8:=sG;by_cases c9:(ji8)≥a1
    ·rw [if_pos c9] at H;have o8:=decide_eq_true c9;clear c9;replace H:=zO H;obtain ⟨t139,A10,H⟩:=H;try dsimp only at H
     obtain rfl:=Option.some.inj H;go_wp2_with (first|((with_reducible refine ay (f:=130) rfl ?_);refine aH (some 85) rfl rfl Tryz.func130 (by kernel_rfl) rfl #[.int .i64 (wrap64 ((wrap64 ((wrap64 ((wrap64 ((wrap64 ((wrap64 (-(ji8)))*(ji8)))*(ji8)))+(wrap64 ((wrap64 ((wrap64 (5*(ji8)))*(ji8)))*a1)))) - (wrap64 ((wrap64 ((wrap64 (8*(ji8)))*a1))*a1))))+(wrap64 ((wrap64 ((wrap64 (4*a1))*a1))*a1)))),.int .i64 1073741824,.int .i64 (wrap64 ((wrap64 ((wrap64 (2*a1))*a1))*a1))] rfl (by (try simp only [List.map_toArray,List.map_cons,List.map_nil]);first|done|(simp only [sG];rfl)|(simp only [Int.tdiv_eq_ediv_of_nonneg hji8l];rfl)|rfl|(simp only [List.length_drop,List.length_take];rfl)) ?_;(with_reducible refine (bG.calls kj2 (wrap64 ((wrap64 ((wrap64 ((wrap64 ((wrap64 ((wrap64 (-(ji8)))*(ji8)))*(ji8)))+(wrap64 ((wrap64 ((wrap64 (5*(ji8)))*(ji8)))*a1)))) - (wrap64 ((wrap64 ((wrap64 (8*(ji8)))*a1))*a1))))+(wrap64 ((wrap64 ((wrap64 (4*a1))*a1))*a1)))) 1073741824 (wrap64 ((wrap64 ((wrap64 (2*a1))*a1))*a1)) t139 _ A10.out).mono ?_);rintro e w' ⟨rfl,⟨nd,rfl⟩⟩;refine ⟨_,rfl,?_⟩));go_ret;exact ⟨by first|rfl|(simp [bJ,bK] <;> rfl)|(simp only [← sG];first|rfl|(simp [bJ,bK] <;> rfl))|(simp [*,bJ,bK] <;> rfl),zB⟩
    ·rw [if_neg c9] at H;have o8:=decide_eq_false c9;clear c9;replace H:=zO H;obtain ⟨aoY,A11,H⟩:=H;try dsimp only at H
     obtain rfl:=Option.some.inj H;go_wp2_with (first|((with_reducible refine ay (f:=130) rfl ?_);refine aH (some 85) rfl rfl Tryz.func130 (by kernel_rfl) rfl #[.int .i64 (wrap64 ((wrap64 ((wrap64 ((wrap64 ((wrap64 (3*(ji8)))*(ji8)))*(ji8))) - (wrap64 ((wrap64 ((wrap64 (5*(ji8)))*(ji8)))*a1))))+(wrap64 ((wrap64 ((wrap64 (2*a1))*a1))*a1)))),.int .i64 1073741824,.int .i64 (wrap64 ((wrap64 ((wrap64 (2*a1))*a1))*a1))] rfl (by (try simp only [List.map_toArray,List.map_cons,List.map_nil]);first|done|(simp only [sG];rfl)|(simp only [Int.tdiv_eq_ediv_of_nonneg hji8l];rfl)|rfl|(simp only [List.length_drop,List.length_take];rfl)) ?_;(with_reducible refine (bG.calls kj2 (wrap64 ((wrap64 ((wrap64 ((wrap64 ((wrap64 (3*(ji8)))*(ji8)))*(ji8))) - (wrap64 ((wrap64 ((wrap64 (5*(ji8)))*(ji8)))*a1))))+(wrap64 ((wrap64 ((wrap64 (2*a1))*a1))*a1)))) 1073741824 (wrap64 ((wrap64 ((wrap64 (2*a1))*a1))*a1)) aoY _ A11.out).mono ?_);rintro e w' ⟨rfl,⟨nd,rfl⟩⟩;refine ⟨_,rfl,?_⟩));go_ret;exact ⟨by first|rfl|(simp [bJ,bK] <;> rfl)|(simp only [← sG];first|rfl|(simp [bJ,bK] <;> rfl))|(simp [*,bJ,bK] <;> rfl),zB⟩
def mF.f (a0 a1:Int):Option (Int):=if a1≤0 then (some a0) else (if a1≥64 then (some 0) else (if 0≤a1 then (if 0≤(wrap64 (a1 - 1)) then (some (wrap64 ((shr .i64 a0 a1)+(Go.bits .and .i64 (shr .i64 a0 (wrap64 (a1 - 1))) 1)))) else (none)) else (none)))
theorem mF.calls (a0 a1 r:Int) (w:World) (h:mF.f a0 a1=some r) :
  Calls Tryz.prog 100 #[.int .i64 a0,.int .i64 a1] w fun e w'=>e = .returned (.int .i64 r)∧dA w w':=by
 have H:=h;clear h;unfold mF.f at H;by_cases c3:a1≤0
 ·rw [if_pos c3] at H;have fV:=decide_eq_true c3;clear c3;obtain rfl:=Option.some.inj H;go_enter Tryz.func100,Tryz.ntmps100;go_wp2;repeat (go_quiet (fail);try go_wp2)
  go_ret;exact ⟨zT,zW⟩
 ·rw [if_neg c3] at H;have fV:=decide_eq_false c3;clear c3;by_cases c4:a1≥64
  ·rw [if_pos c4] at H;have fH:=decide_eq_true c4;clear c4;obtain rfl:=Option.some.inj H;go_enter Tryz.func100,Tryz.ntmps100;go_wp2;repeat (go_quiet (fail);try go_wp2)
   go_ret;exact ⟨zT,zW⟩
  ·rw [if_neg c4] at H;have fH:=decide_eq_false c4;clear c4;by_cases c5:0≤a1
   ·rw [if_pos c5] at H;have gJ:=eq_true c5;have abY:=decide_eq_true c5;clear c5;obtain ⟨ji6,vU⟩:∃ j_:Int,(shr .i64 a0 a1)=j_:=⟨_,rfl⟩;replace H:(if 0≤(wrap64 (a1 - 1)) then (some (wrap64 ((ji6)+(Go.bits .and .i64 (shr .i64 a0 (wrap64 (a1 - 1))) 1)))) else (none))=some r:=(by first|(rw [vU] at H;exact H)|(simp only [vU] at H ⊢;exact H));have awN:(a0 / 2 ^ min a1.toNat 64)=ji6:=vU;have aAI:a1≤64→(a0 / 2 ^ a1.toNat)=ji6:=rF vU;obtain ⟨ji7,uF⟩:∃ j_:Int,(wrap64 (a1 - 1))=j_:=⟨_,rfl⟩;replace H:(if 0≤(ji7) then (some (wrap64 ((ji6)+(Go.bits .and .i64 (shr .i64 a0 (ji7)) 1)))) else (none))=some r:=(by first|(rw [uF] at H;exact H)|(simp only [uF] at H ⊢;exact H));have aBZ:(IntKind.i64.wrap (a1 - 1))=ji7:=(bP _).trans uF;by_cases c8:0≤(ji7)
    ·rw [if_pos c8] at H;have qg:=eq_true c8;have abR:=decide_eq_true c8;clear c8;obtain ⟨ji9,oN⟩:∃ j_:Int,(shr .i64 a0 (ji7))=j_:=⟨_,rfl⟩;replace H:(some (wrap64 ((ji6)+(Go.bits .and .i64 (ji9) 1))))=some r:=(by first|(rw [oN] at H;exact H)|(simp only [oN] at H ⊢;exact H));have aqM:(a0 / 2 ^ min (ji7).toNat 64)=ji9:=oN;have aCc:(ji7)≤64→(a0 / 2 ^ (ji7).toNat)=ji9:=rF oN;obtain rfl:=Option.some.inj H;go_enter Tryz.func100,Tryz.ntmps100;go_wp2;repeat (go_quiet (fail);try go_wp2)
     go_ret;exact ⟨by first|rfl|(simp;done)|(simp only [← vU,← uF,← oN] <;> (first|rfl|simp))|(simp [*];done),zW⟩
    ·rw [if_neg c8] at H;exact absurd H (by simp)
   ·rw [if_neg c5] at H;exact absurd H (by simp)
def yO.f (a0 a1:Int):Option (Bool):=if a1≥1 then (if a1≤1048576 then (if a0≥(wrap64 ((-4)*a1)) then (some (decide (a0≤(wrap64 (4*a1))))) else (some false)) else (some false)) else (some false)
theorem yO.calls (a0 a1:Int) (r:Bool) (w:World) (h:yO.f a0 a1=some r) :
  Calls Tryz.prog 174 #[.int .i64 a0,.int .i64 a1] w fun e w'=>e = .returned (.bool r)∧dA w w':=by
 have H:=h;clear h;unfold yO.f at H;by_cases c3:a1≥1
 ·rw [if_pos c3] at H;have fV:=decide_eq_true c3;clear c3;by_cases c4:a1≤1048576
  ·rw [if_pos c4] at H;have fH:=decide_eq_true c4;clear c4;by_cases c5:a0≥(wrap64 ((-4)*a1))
   ·rw [if_pos c5] at H;have gJ:=decide_eq_true c5;clear c5;obtain rfl:=Option.some.inj H;go_enter Tryz.func174,Tryz.ntmps174;go_wp2;go_ret;exact ⟨zT,zW⟩
   ·rw [if_neg c5] at H;have gJ:=decide_eq_false c5;clear c5;obtain rfl:=Option.some.inj H;go_enter Tryz.func174,Tryz.ntmps174;go_wp2;go_ret;exact ⟨zT,zW⟩
  ·rw [if_neg c4] at H;have fH:=decide_eq_false c4;clear c4;obtain rfl:=Option.some.inj H;go_enter Tryz.func174,Tryz.ntmps174;go_wp2;go_ret;exact ⟨zT,zW⟩
 ·rw [if_neg c3] at H;have fV:=decide_eq_false c3;clear c3;obtain rfl:=Option.some.inj H;go_enter Tryz.func174,Tryz.ntmps174;go_wp2;go_ret;exact ⟨zT,zW⟩
def uO.f (a0:Int):Option (Int):=some (mx a0 (wrap64 (-a0)))
theorem uO.calls (a0 r:Int) (w:World) (h:uO.f a0=some r) :
  Calls Tryz.prog 175 #[.int .i64 a0] w fun e w'=>e = .returned (.int .i64 r)∧Below w.heap.size w w':=by
 have HB:=aj.mk (Below.refl w.heap.size w);have H:=h;clear h;unfold uO.f at H;obtain ⟨ji2,ab9⟩:∃ j_:Int,(mx a0 (wrap64 (-a0)))=j_:=⟨_,rfl⟩;replace H:(some ji2)=some r:=(by first|(rw [ab9] at H;exact H)|(simp only [ab9] at H ⊢;exact H));have aCd:(if a0 < (wrap64 (-a0)) then (wrap64 (-a0)) else a0)=ji2:=ab9;obtain rfl:=Option.some.inj H;go_enter Tryz.func175,Tryz.ntmps175;go_wp2;go_ret;exact ⟨by first|rfl|(simp [bJ,bK] <;> rfl)|(simp only [← ab9];first|rfl|(simp [bJ,bK] <;> rfl))|(simp [*,bJ,bK] <;> rfl),zB⟩
def qw.f (a0 a1 a2:Int):Option (Int × Int):=if a2≥64 then (if 0≤(wrap64 (a2 - 64)) then (some (0,shr .u64 a0 (wrap64 (a2 - 64)))) else (none)) else (if 0≤a2 then (if 0≤(wrap64 (64 - a2)) then (some (shr .u64 a0 a2,Go.bits .or .u64 (shr .u64 a1 a2) (shl .u64 a0 (wrap64 (64 - a2))))) else (none)) else (none))
theorem qw.calls (a0 a1 a2 r1 r2:Int) (w:World) (h:qw.f a0 a1 a2=some (r1,r2)) :
  Calls Tryz.prog 188 #[.int .u64 a0,.int .u64 a1,.int .i64 a2] w fun e w'=>e = .returned (.tuple #[.int .u64 r1,.int .u64 r2])∧dA w w':=by
 have H:=h;clear h;unfold qw.f at H;by_cases c4:a2≥64
 ·rw [if_pos c4] at H;have fH:=decide_eq_true c4;clear c4;obtain ⟨ji5,aap⟩:∃ j_:Int,(wrap64 (a2 - 64))=j_:=⟨_,rfl⟩;replace H:(if 0≤(ji5) then (some (0,shr .u64 a0 (ji5))) else (none))=some (r1,r2):=(by first|(rw [aap] at H;exact H)|(simp only [aap] at H ⊢;exact H));have aH6:(IntKind.i64.wrap (a2 - 64))=ji5:=(bP _).trans aap;by_cases c6:0≤(ji5)
  ·rw [if_pos c6] at H;have gI:=eq_true c6;have vS:=decide_eq_true c6;clear c6;obtain ⟨ji7,uF⟩:∃ j_:Int,(shr .u64 a0 (ji5))=j_:=⟨_,rfl⟩;replace H:(some (0,ji7))=some (r1,r2):=(by first|(rw [uF] at H;exact H)|(simp only [uF] at H ⊢;exact H));have aCe:(a0 / 2 ^ min (ji5).toNat 64)=ji7:=uF;have aH7:(ji5)≤64→(a0 / 2 ^ (ji5).toNat)=ji7:=rF uF;simp only [Option.some.injEq,Prod.mk.injEq] at H;obtain ⟨rfl,rfl⟩:=H;go_enter Tryz.func188,Tryz.ntmps188;go_wp2;repeat (go_quiet (fail);try go_wp2)
   go_ret2;exact ⟨by first|rfl|(simp;done)|(simp only [← aap,← uF] <;> (first|rfl|simp))|(simp [*];done),zW⟩
  ·rw [if_neg c6] at H;exact absurd H (by simp)
 ·rw [if_neg c4] at H;have fH:=decide_eq_false c4;clear c4;by_cases c8:0≤a2
  ·rw [if_pos c8] at H;have qg:=eq_true c8;have abR:=decide_eq_true c8;clear c8;obtain ⟨ji9,oN⟩:∃ j_:Int,(shr .u64 a0 a2)=j_:=⟨_,rfl⟩;replace H:(if 0≤(wrap64 (64 - a2)) then (some (ji9,Go.bits .or .u64 (shr .u64 a1 a2) (shl .u64 a0 (wrap64 (64 - a2))))) else (none))=some (r1,r2):=(by first|(rw [oN] at H;exact H)|(simp only [oN] at H ⊢;exact H));have aqM:(a0 / 2 ^ min a2.toNat 64)=ji9:=oN;have aCc:a2≤64→(a0 / 2 ^ a2.toNat)=ji9:=rF oN;have mg:=eq_true (of_decide_eq_true (by first|(with_reducible assumption)|assumption):0≤a2);obtain ⟨afL,abI⟩:∃ j_:Int,(shr .u64 a1 a2)=j_:=⟨_,rfl⟩;replace H:(if 0≤(wrap64 (64 - a2)) then (some (ji9,Go.bits .or .u64 (afL) (shl .u64 a0 (wrap64 (64 - a2))))) else (none))=some (r1,r2):=(by first|(rw [abI] at H;exact H)|(simp only [abI] at H ⊢;exact H));have azE:(a1 / 2 ^ min a2.toNat 64)=afL:=abI;have azF:a2≤64→(a1 / 2 ^ a2.toNat)=afL:=rF abI;obtain ⟨jZ,qO⟩:∃ j_:Int,(wrap64 (64 - a2))=j_:=⟨_,rfl⟩;replace H:(if 0≤(jZ) then (some (ji9,Go.bits .or .u64 (afL) (shl .u64 a0 (jZ)))) else (none))=some (r1,r2):=(by first|(rw [qO] at H;exact H)|(simp only [qO] at H ⊢;exact H));have aFL:(IntKind.i64.wrap (64 - a2))=jZ:=(bP _).trans qO;by_cases c13:0≤(jZ)
   ·rw [if_pos c13] at H;have zQ:=eq_true c13;have akv:=decide_eq_true c13;clear c13;obtain ⟨avC,akw⟩:∃ j_:Int,(shl .u64 a0 (jZ))=j_:=⟨_,rfl⟩;replace H:(some (ji9,Go.bits .or .u64 (afL) (avC)))=some (r1,r2):=(by first|(rw [akw] at H;exact H)|(simp only [akw] at H ⊢;exact H));have aFM:(IntKind.u64.wrap (a0*2 ^ min (jZ).toNat 64))=avC:=akw;have aFN:(jZ)≤64→(IntKind.u64.wrap (a0*2 ^ (jZ).toNat))=avC:=aaQ akw;simp only [Option.some.injEq,Prod.mk.injEq] at H;obtain ⟨rfl,rfl⟩:=H;go_enter Tryz.func188,Tryz.ntmps188;go_wp2;repeat (go_quiet (fail);try go_wp2)
    go_ret2;exact ⟨by first|rfl|(simp;done)|(simp only [← oN,← abI,← qO,← akw] <;> (first|rfl|simp))|(simp [*];done),zW⟩
   ·rw [if_neg c13] at H;exact absurd H (by simp)
  ·rw [if_neg c8] at H;exact absurd H (by simp)
def uN.f (a0 a1 a2:Int):Option (Bool):=if a2≥64 then (if a1=0 then (if 0≤(wrap64 (128 - a2)) then (some ((shl .u64 a0 (wrap64 (128 - a2))) == 0)) else (none)) else (some false)) else (if 0≤(wrap64 (64 - a2)) then (some ((shl .u64 a1 (wrap64 (64 - a2))) == 0)) else (none))
theorem uN.calls (a0 a1 a2:Int) (r:Bool) (w:World) (h:uN.f a0 a1 a2=some r) :
  Calls Tryz.prog 189 #[.int .u64 a0,.int .u64 a1,.int .i64 a2] w fun e w'=>e = .returned (.bool r)∧dA w w':=by
 have H:=h;clear h;unfold uN.f at H;by_cases c4:a2≥64
 ·rw [if_pos c4] at H;have fH:=decide_eq_true c4;clear c4;by_cases c5:a1=0
  ·rw [if_pos c5] at H;have gJ:(a1 == 0)=true:=beq_iff_eq.mpr c5;have abY:(a1 != 0)=false:=bne_eq_false_iff_eq.mpr c5;clear c5;obtain ⟨ji6,vU⟩:∃ j_:Int,(wrap64 (128 - a2))=j_:=⟨_,rfl⟩;replace H:(if 0≤(ji6) then (some ((shl .u64 a0 (ji6)) == 0)) else (none))=some r:=(by first|(rw [vU] at H;exact H)|(simp only [vU] at H ⊢;exact H));have aH8:(IntKind.i64.wrap (128 - a2))=ji6:=(bP _).trans vU;by_cases c7:0≤(ji6)
   ·rw [if_pos c7] at H;have jr:=eq_true c7;have abQ:=decide_eq_true c7;clear c7;obtain ⟨ji8,sG⟩:∃ j_:Int,(shl .u64 a0 (ji6))=j_:=⟨_,rfl⟩;replace H:(some ((ji8) == 0))=some r:=(by first|(rw [sG] at H;exact H)|(simp only [sG] at H ⊢;exact H));have axl:(IntKind.u64.wrap (a0*2 ^ min (ji6).toNat 64))=ji8:=sG;have aH9:(ji6)≤64→(IntKind.u64.wrap (a0*2 ^ (ji6).toNat))=ji8:=aaQ sG;obtain rfl:=Option.some.inj H;go_enter Tryz.func189,Tryz.ntmps189;go_wp2;go_ret;exact ⟨by first|rfl|(simp;done)|(simp only [← vU,← sG] <;> (first|rfl|simp))|(simp [*];done),zW⟩
   ·rw [if_neg c7] at H;exact absurd H (by simp)
  ·rw [if_neg c5] at H;have gJ:(a1 == 0)=false:=beq_eq_false_iff_ne.mpr c5;have abY:(a1 != 0)=true:=bne_iff_ne.mpr c5;obtain rfl:=Option.some.inj H;go_enter Tryz.func189,Tryz.ntmps189;go_wp2;go_ret;exact ⟨zT,zW⟩
 ·rw [if_neg c4] at H;have fH:=decide_eq_false c4;clear c4;obtain ⟨ji9,oN⟩:∃ j_:Int,(wrap64 (64 - a2))=j_:=⟨_,rfl⟩;replace H:(if 0≤(ji9) then (some ((shl .u64 a1 (ji9)) == 0)) else (none))=some r:=(by first|(rw [oN] at H;exact H)|(simp only [oN] at H ⊢;exact H));have aIa:(IntKind.i64.wrap (64 - a2))=ji9:=(bP _).trans oN;by_cases c10:0≤(ji9)
  ·rw [if_pos c10] at H;have mg:=eq_true c10;have ajQ:=decide_eq_true c10;clear c10;obtain ⟨afL,abI⟩:∃ j_:Int,(shl .u64 a1 (ji9))=j_:=⟨_,rfl⟩;replace H:(some ((afL) == 0))=some r:=(by first|(rw [abI] at H;exact H)|(simp only [abI] at H ⊢;exact H));have azE:(IntKind.u64.wrap (a1*2 ^ min (ji9).toNat 64))=afL:=abI;have azF:(ji9)≤64→(IntKind.u64.wrap (a1*2 ^ (ji9).toNat))=afL:=aaQ abI;obtain rfl:=Option.some.inj H;go_enter Tryz.func189,Tryz.ntmps189;go_wp2;go_ret;exact ⟨by first|rfl|(simp;done)|(simp only [← oN,← abI] <;> (first|rfl|simp))|(simp [*];done),zW⟩
  ·rw [if_neg c10] at H;exact absurd H (by simp)
def dL.j0:Nat→Bool→Int→Int→Bool→Option (Int)
 | 0,_,_,_,_=>none
 | k+1,x9,x10,x11,x59=>if x59=true then ((dG.f k x10 x11 x9).bind fun avD=>(some avD)) else ((dG.f k (IntKind.u64.wrap (x10+(rH x11 1 0))) (rG x11 1 0) x9).bind fun avE=>(some avE))
def dL.f (k:Nat) (a0 a1 a2:Int):Option (Int):=if (mx 0 a2)≥128 then (some 0) else ((lQ.f a0 a1).bind fun nZ=>(if (mx 0 a2)=0 then ((dG.f k nZ.1 nZ.2.1 nZ.2.2).bind fun aoZ=>(some aoZ)) else ((qw.f nZ.1 nZ.2.1 (mx 0 a2)).bind fun aaf=>((qw.f nZ.1 nZ.2.1 (wrap64 ((mx 0 a2) - 1))).bind fun ar5=>(if (Go.bits .and .u64 ar5.2 1)=0 then (dL.j0 k nZ.2.2 aaf.1 aaf.2 true) else (if nZ.2.2=true then ((uN.f nZ.1 nZ.2.1 (wrap64 ((mx 0 a2) - 1))).bind fun alL=>(dL.j0 k nZ.2.2 aaf.1 aaf.2 alL)) else (dL.j0 k nZ.2.2 aaf.1 aaf.2 false)))))))
theorem dL.jG:∀ k,(∀ y0 y1 y2 y3,LeO (dL.j0 k y0 y1 y2 y3) (dL.j0 (k+1) y0 y1 y2 y3))
 | 0=>fun _ _ _ _ r h=>by simp [dL.j0] at h
 | k+1=>by
  have ih0:=dL.jG k
  ·intro y0 y1 y2 y3;unfold dL.j0;repeat' (with_reducible first|exact ih0 _ _ _ _|exact dG.mono _ _ _ _|exact zM|refine LeO.ite ?_ ?_|refine LeO.bind ?_ (fun _ => ?_))
theorem dL.mono:∀ a0 a1 a2 k,LeO (dL.f k a0 a1 a2) (dL.f (k+1) a0 a1 a2):=by
 intro a0 a1 a2 k;have ih0:=dL.jG k;unfold dL.f;repeat' (with_reducible first|exact ih0 _ _ _ _|exact dG.mono _ _ _ _|exact zM|refine LeO.ite ?_ ?_|refine LeO.bind ?_ (fun _ => ?_))
theorem dL.calls (k:Nat) (a0 a1 a2 r:Int) (w:World) (h:dL.f k a0 a1 a2=some r) :
  Calls Tryz.prog 176 #[.int .i64 a0,.int .i64 a1,.int .i64 a2] w fun e w'=>e = .returned (.int .i64 r)∧Below w.heap.size w w':=by
 have HB:=aj.mk (Below.refl w.heap.size w);have H:=h;clear h;unfold dL.f at H;obtain ⟨ji4,qW⟩:∃ j_:Int,(mx 0 a2)=j_:=⟨_,rfl⟩;replace H:(if (ji4)≥128 then (some 0) else ((lQ.f a0 a1).bind fun nZ=>(if (ji4)=0 then ((dG.f k nZ.1 nZ.2.1 nZ.2.2).bind fun aoZ=>(some aoZ)) else ((qw.f nZ.1 nZ.2.1 (ji4)).bind fun aaf=>((qw.f nZ.1 nZ.2.1 (wrap64 ((ji4) - 1))).bind fun ar5=>(if (Go.bits .and .u64 ar5.2 1)=0 then (dL.j0 k nZ.2.2 aaf.1 aaf.2 true) else (if nZ.2.2=true then ((uN.f nZ.1 nZ.2.1 (wrap64 ((ji4) - 1))).bind fun alL=>(dL.j0 k nZ.2.2 aaf.1 aaf.2 alL)) else (dL.j0 k nZ.2.2 aaf.1 aaf.2 false))))))))=some r:=by first|(rw [qW] at H;exact H)|(simp only [qW] at H ⊢;exact H)
 (try (have axn:0≤ji4:=by (rw [← qW];unfold mx;(repeat' split) <;> omega)))
 (try (have aIb:0≤ji4:=by omega))
 have axo:(if 0 < a2 then a2 else 0)=ji4:=qW;by_cases c5:(ji4)≥128
 ·rw [if_pos c5] at H;have gJ:=decide_eq_true c5;clear c5;obtain rfl:=Option.some.inj H;go_enter Tryz.func176,Tryz.ntmps176;go_wp2;go_ret;exact ⟨by first|rfl|(simp [bJ,bK] <;> rfl)|(simp only [← qW];first|rfl|(simp [bJ,bK] <;> rfl))|(simp [*,bJ,bK] <;> rfl),zB⟩
 ·rw [if_neg c5] at H;have gJ:=decide_eq_false c5;clear c5;replace H:=zO H;obtain ⟨⟨t141,afM,t143⟩,A6,H⟩:=H;try dsimp only at H
  by_cases c7:(ji4)=0
  ·rw [if_pos c7] at H;have jr:((ji4) == 0)=true:=beq_iff_eq.mpr c7;have abQ:((ji4) != 0)=false:=bne_eq_false_iff_eq.mpr c7;clear c7;replace H:=zO H;obtain ⟨aoZ,A8,H⟩:=H;try dsimp only at H
   obtain rfl:=Option.some.inj H;go_enter Tryz.func176,Tryz.ntmps176;go_wp2_with (first|((with_reducible refine ay (f:=154) rfl ?_);refine aH (some 22) rfl rfl Tryz.func154 (by kernel_rfl) rfl #[.int .i64 a0,.int .i64 a1] rfl zL ?_;(with_reducible refine (lQ.calls a0 a1 t141 afM t143 _ A6.out).mono ?_);rintro e w' ⟨rfl,⟨nd,rfl⟩⟩;refine ⟨_,rfl,?_⟩)|((with_reducible refine ay (f:=156) rfl ?_);refine aH (some 31) rfl rfl Tryz.func156 (by kernel_rfl) rfl #[.int .u64 t141,.int .u64 afM,.bool t143] rfl zL ?_;(with_reducible refine (dG.calls k t141 afM t143 aoZ _ A8.out).mono ?_);rintro e w' ⟨rfl,⟨nd,rfl⟩⟩;refine ⟨_,rfl,?_⟩));go_ret;exact ⟨by first|rfl|(simp [bJ,bK] <;> rfl)|(simp only [← qW];first|rfl|(simp [bJ,bK] <;> rfl))|(simp [*,bJ,bK] <;> rfl),zB⟩
  ·rw [if_neg c7] at H;have jr:((ji4) == 0)=false:=beq_eq_false_iff_ne.mpr c7;have abQ:((ji4) != 0)=true:=bne_iff_ne.mpr c7;replace H:=zO H;obtain ⟨⟨t145,t146⟩,A9,H⟩:=H;try dsimp only at H
   replace H:=zO H;obtain ⟨⟨aDy,t148⟩,A10,H⟩:=H;try dsimp only at H
   have avF:=aj.mk H;clear H;go_enter Tryz.func176,Tryz.ntmps176;go_upto_region 9 with (first|((with_reducible refine ay (f:=154) rfl ?_);refine aH (some 22) rfl rfl Tryz.func154 (by kernel_rfl) rfl #[.int .i64 a0,.int .i64 a1] rfl zL ?_;(with_reducible refine (lQ.calls a0 a1 t141 afM t143 _ A6.out).mono ?_);rintro e w' ⟨rfl,⟨nd,rfl⟩⟩;refine ⟨_,rfl,?_⟩)|((with_reducible refine ay (f:=188) rfl ?_);refine aH (some 36) rfl rfl Tryz.func188 (by kernel_rfl) rfl #[.int .u64 t141,.int .u64 afM,.int .i64 ji4] rfl (by (try simp only [List.map_toArray,List.map_cons,List.map_nil]);first|done|(simp only [qW];rfl)|(simp only [Int.tdiv_eq_ediv_of_nonneg axn];rfl)|rfl|(simp only [List.length_drop,List.length_take];rfl)) ?_;(with_reducible refine (qw.calls t141 afM ji4 t145 t146 _ A9.out).mono ?_);rintro e w' ⟨rfl,⟨nd,rfl⟩⟩;refine ⟨_,rfl,?_⟩)|((with_reducible refine ay (f:=188) rfl ?_);refine aH (some 44) rfl rfl Tryz.func188 (by kernel_rfl) rfl #[.int .u64 t141,.int .u64 afM,.int .i64 (wrap64 ((ji4) - 1))] rfl (by (try simp only [List.map_toArray,List.map_cons,List.map_nil]);first|done|(simp only [qW];rfl)|(simp only [Int.tdiv_eq_ediv_of_nonneg axn];rfl)|rfl|(simp only [List.length_drop,List.length_take];rfl)) ?_;(with_reducible refine (qw.calls t141 afM (wrap64 ((ji4) - 1)) aDy t148 _ A10.out).mono ?_);rintro e w' ⟨rfl,⟨nd,rfl⟩⟩;refine ⟨_,rfl,?_⟩))
   (try simp only [Act.put,List.setIfInBounds_toArray,List.set_cons_zero,List.set_cons_succ])
   go_cut [59] (fun v59 wc=>∃ (kq:Nat) (akx:Bool),v59 = .bool akx∧aj (dL.j0 kq t143 t145 t146 akx=some r)∧aj (kq≤k)∧aj (Below w.heap.size w wc))
   case first =>
    have H:=avF.out;clear avF;by_cases c12:(Go.bits .and .u64 t148 1)=0
    ·rw [if_pos c12] at H;have yL:((Go.bits .and .u64 t148 1) == 0)=true:=beq_iff_eq.mpr c12;have anm:((Go.bits .and .u64 t148 1) != 0)=false:=bne_eq_false_iff_eq.mpr c12;clear c12
     (first|rw [yL]|(simp only [bP,bU];rw [yL])|skip)
     have H':=aj.mk H;clear H;go_wp2;go_meet
     case rel=>exact ⟨_,(true),zT,H',⟨by first|omega|exact Nat.le_refl _⟩,⟨zB⟩⟩
    ·rw [if_neg c12] at H;have yL:((Go.bits .and .u64 t148 1) == 0)=false:=beq_eq_false_iff_ne.mpr c12;have anm:((Go.bits .and .u64 t148 1) != 0)=true:=bne_iff_ne.mpr c12
     (first|rw [yL]|(simp only [bP,bU];rw [yL])|skip)
     by_cases c13:t143=true
     ·subst c13;rw [if_pos rfl] at H;(try dsimp only at H);replace H:=zO H;obtain ⟨alL,A14,H⟩:=H;try dsimp only at H
      have H':=aj.mk H;clear H;go_wp2_with (first|(go_at_call 189;(with_reducible refine (uN.calls t141 afM (wrap64 ((ji4) - 1)) alL _ A14.out).mono ?_);rintro e w' ⟨rfl,⟨nd,rfl⟩⟩));go_meet
      case rel=>exact ⟨_,(alL),zT,H',⟨by first|omega|exact Nat.le_refl _⟩,⟨zB⟩⟩
     ·replace c13:=Bool.eq_false_iff.mpr c13;subst c13;rw [if_neg (show ¬ (false=true) by decide)] at H;(try dsimp only at H);have H':=aj.mk H;clear H;go_wp2;go_meet
      case rel=>exact ⟨_,(false),zT,H',⟨by first|omega|exact Nat.le_refl _⟩,⟨zB⟩⟩
   case rest =>
    clear avF;obtain ⟨kq,akx,rfl,HA,aIX,HB⟩:=hcut;cases kq with
    | zero=>exact absurd HA.out (by simp [dL.j0])
    | succ azG =>
     have H:=HA.out;clear HA;simp only [dL.j0] at H;by_cases c15:akx=true
     ·subst c15;rw [if_pos rfl] at H;(try dsimp only at H);replace H:=zO H;obtain ⟨avD,A16,H⟩:=H;try dsimp only at H
      obtain rfl:=Option.some.inj H;go_wp2_with (first|((with_reducible refine ay (f:=156) rfl ?_);refine aH (some 63) rfl rfl Tryz.func156 (by kernel_rfl) rfl #[.int .u64 t145,.int .u64 t146,.bool t143] rfl zL ?_;(with_reducible refine (dG.calls azG t145 t146 t143 avD _ A16.out).mono ?_);rintro e w' ⟨rfl,⟨nd,rfl⟩⟩;refine ⟨_,rfl,?_⟩));go_ret;exact ⟨by first|rfl|(simp [bJ,bK] <;> rfl)|(simp only [← qW];first|rfl|(simp [bJ,bK] <;> rfl))|(simp [*,bJ,bK] <;> rfl),zB⟩
     ·replace c15:=Bool.eq_false_iff.mpr c15;subst c15;rw [if_neg (show ¬ (false=true) by decide)] at H;(try dsimp only at H);replace H:=zO H;obtain ⟨avE,A17,H⟩:=H;try dsimp only at H
      obtain rfl:=Option.some.inj H;go_wp2_with (first|((with_reducible refine ay (f:=156) rfl ?_);refine aH (some 74) rfl rfl Tryz.func156 (by kernel_rfl) rfl #[.int .u64 (IntKind.u64.wrap (t145+(rH t146 1 0))),.int .u64 (rG t146 1 0),.bool t143] rfl zL ?_;(with_reducible refine (dG.calls azG (IntKind.u64.wrap (t145+(rH t146 1 0))) (rG t146 1 0) t143 avE _ A17.out).mono ?_);rintro e w' ⟨rfl,⟨nd,rfl⟩⟩;refine ⟨_,rfl,?_⟩));go_ret;exact ⟨by first|rfl|(simp [bJ,bK] <;> rfl)|(simp only [← qW];first|rfl|(simp [bJ,bK] <;> rfl))|(simp [*,bJ,bK] <;> rfl),zB⟩
def fJ.l0:Nat→Int→Int→Int→Int→Int→Option (Int)
 | 0,_,_,_,_,_=>none
 | k+1,x5,x6,x7,x8,x9=>if x9≤30 then ((bG.f k x7 x5 (wrap64 ((wrap64 ((wrap64 (2*x9))*(wrap64 ((wrap64 (2*x9))+1))))*1099511627776))).bind fun alM=>(fJ.l0 k x5 (wrap64 (x6+(wrap64 ((wrap64 (-x8))*alM)))) alM (wrap64 (-x8)) (wrap64 (x9+1)))) else (some x6)
def fJ.f (k:Nat) (a0 a1:Int):Option (Int):=(uO.f a0).bind fun t152=>((bG.f k 10851744800547 t152 a1).bind fun ao0=>((bG.f k ao0 t152 a1).bind fun t154=>(fJ.l0 k t154 1099511627776 1099511627776 1 1)))
theorem fJ.jG:∀ k,(∀ y0 y1 y2 y3 y4,LeO (fJ.l0 k y0 y1 y2 y3 y4) (fJ.l0 (k+1) y0 y1 y2 y3 y4))
 | 0=>fun _ _ _ _ _ r h=>by simp [fJ.l0] at h
 | k+1=>by
  have ih0:=fJ.jG k
  ·intro y0 y1 y2 y3 y4;unfold fJ.l0;repeat' (with_reducible first|exact ih0 _ _ _ _ _|exact bG.mono _ _ _ _|exact zM|refine LeO.ite ?_ ?_|refine LeO.bind ?_ (fun _ => ?_))
theorem fJ.mono:∀ a0 a1 k,LeO (fJ.f k a0 a1) (fJ.f (k+1) a0 a1):=by
 intro a0 a1 k;have ih0:=fJ.jG k;unfold fJ.f;repeat' (with_reducible first|exact ih0 _ _ _ _ _|exact bG.mono _ _ _ _|exact zM|refine LeO.ite ?_ ?_|refine LeO.bind ?_ (fun _ => ?_))
theorem fJ.calls (k:Nat) (a0 a1 r:Int) (w:World) (h:fJ.f k a0 a1=some r) :
  Calls Tryz.prog 177 #[.int .i64 a0,.int .i64 a1] w fun e w'=>e = .returned (.int .i64 r)∧Below w.heap.size w w':=by
 have HB:=aj.mk (Below.refl w.heap.size w);have H:=h;clear h;unfold fJ.f at H;replace H:=zO H;obtain ⟨t152,A3,H⟩:=H;try dsimp only at H
 replace H:=zO H;obtain ⟨ao0,A4,H⟩:=H;try dsimp only at H
 replace H:=zO H;obtain ⟨t154,A5,H⟩:=H;try dsimp only at H
 have H':=aj.mk H;clear H;go_enter Tryz.func177,Tryz.ntmps177;go_wp2_with (first|((with_reducible refine ay (f:=175) rfl ?_);refine aH (some 11) rfl rfl Tryz.func175 (by kernel_rfl) rfl #[.int .i64 a0] rfl zL ?_;(with_reducible refine (uO.calls a0 t152 _ A3.out).mono ?_);rintro e w6 ⟨rfl,hb⟩;refine ⟨_,rfl,?_⟩;replace HB:=aj.mk (ak zB hb);(try clear hb))|((with_reducible refine ay (f:=130) rfl ?_);refine aH (some 14) rfl rfl Tryz.func130 (by kernel_rfl) rfl #[.int .i64 10851744800547,.int .i64 t152,.int .i64 a1] rfl zL ?_;(with_reducible refine (bG.calls k 10851744800547 t152 a1 ao0 _ A4.out).mono ?_);rintro e w' ⟨rfl,⟨nd,rfl⟩⟩;refine ⟨_,rfl,?_⟩)|((with_reducible refine ay (f:=130) rfl ?_);refine aH (some 17) rfl rfl Tryz.func130 (by kernel_rfl) rfl #[.int .i64 ao0,.int .i64 t152,.int .i64 a1] rfl zL ?_;(with_reducible refine (bG.calls k ao0 t152 a1 t154 _ A5.out).mono ?_);rintro e w' ⟨rfl,⟨nd,rfl⟩⟩;refine ⟨_,rfl,?_⟩));go_loopg [6,7,8,9] k (fun kq v6 v7 v8 v9 w'=>∃ (rM:Int) (ao1:Int) (iR:Int) (vW:Int),v6 = .int .i64 rM∧v7 = .int .i64 ao1∧v8 = .int .i64 iR∧v9 = .int .i64 vW∧aj (fJ.l0 kq t154 rM ao1 iR vW=some r)∧aj (kq≤k)∧aj (Below w.heap.size w w'))
 case atStart=>exact ⟨(1099511627776),(1099511627776),(1),(1),zT,zT,zT,zT,H',⟨Nat.le_refl _⟩,⟨zB⟩⟩
 case round =>
  clear H';obtain ⟨rM,ao1,iR,vW,rfl,rfl,rfl,rfl,HA,HK1,HB⟩:=hrel;cases gk with
  | zero=>exact absurd HA.out (by simp [fJ.l0])
  | succ k1 =>
   have H:=HA.out;clear HA;simp only [fJ.l0] at H;by_cases c7:vW≤30
   ·rw [if_pos c7] at H;have jr:=decide_eq_true c7;clear c7;replace H:=zO H;obtain ⟨alM,A8,H⟩:=H;try dsimp only at H
    have H':=aj.mk H;clear H;go_wp2_with (first|((with_reducible refine ay (f:=130) rfl ?_);refine aH (some 33) rfl rfl Tryz.func130 (by kernel_rfl) rfl #[.int .i64 ao1,.int .i64 t154,.int .i64 (wrap64 ((wrap64 ((wrap64 (2*vW))*(wrap64 ((wrap64 (2*vW))+1))))*1099511627776))] rfl zL ?_;(with_reducible refine (bG.calls k1 ao1 t154 (wrap64 ((wrap64 ((wrap64 (2*vW))*(wrap64 ((wrap64 (2*vW))+1))))*1099511627776)) alM _ A8.out).mono ?_);rintro e w' ⟨rfl,⟨nd,rfl⟩⟩;refine ⟨_,rfl,?_⟩));go_roundg k1
    case measure=>have:=HK1.out;omega
    case rel=>exact ⟨(wrap64 (rM+(wrap64 ((wrap64 (-iR))*alM)))),(alM),(wrap64 (-iR)),(wrap64 (vW+1)),zT,zT,zT,zT,H',⟨by have:=HK1.out;omega⟩,⟨zB⟩⟩
   ·rw [if_neg c7] at H;have jr:=decide_eq_false c7;clear c7;obtain rfl:=Option.some.inj H;go_wp2;go_ret;exact ⟨zS,zB⟩
def fK.j0:Nat→Int→Int→Bool→Option (Int)
 | 0,_,_,_=>none
 | k+1,x0,x1,x15=>if x15=true then (some 0) else ((fJ.f k x0 x1).bind fun ao2=>((fJ.f k x0 (wrap64 (3*x1))).bind fun t159=>((dL.f k ao2 t159 40).bind fun t160=>((mF.f t160 10).bind fun avG=>(some avG)))))
def fK.f (k:Nat) (a0 a1:Int):Option (Int):=(yO.f a0 a1).bind fun t156=>(if t156=true then ((uO.f a0).bind fun t157=>(fK.j0 k a0 a1 (decide (t157≥(wrap64 (3*a1)))))) else (fK.j0 k a0 a1 true))
theorem fK.jG:∀ k,(∀ y0 y1 y2,LeO (fK.j0 k y0 y1 y2) (fK.j0 (k+1) y0 y1 y2))
 | 0=>fun _ _ _ r h=>by simp [fK.j0] at h
 | k+1=>by
  have ih0:=fK.jG k
  ·intro y0 y1 y2;unfold fK.j0;repeat' (with_reducible first|exact ih0 _ _ _|exact fJ.mono _ _ _|exact dL.mono _ _ _ _|exact zM|refine LeO.ite ?_ ?_|refine LeO.bind ?_ (fun _ => ?_))
theorem fK.mono:∀ a0 a1 k,LeO (fK.f k a0 a1) (fK.f (k+1) a0 a1):=by
 intro a0 a1 k;have ih0:=fK.jG k;unfold fK.f;repeat' (with_reducible first|exact ih0 _ _ _|exact fJ.mono _ _ _|exact dL.mono _ _ _ _|exact zM|refine LeO.ite ?_ ?_|refine LeO.bind ?_ (fun _ => ?_))
theorem fK.calls (k:Nat) (a0 a1 r:Int) (w:World) (h:fK.f k a0 a1=some r) :
  Calls Tryz.prog 153 #[.int .i64 a0,.int .i64 a1] w fun e w'=>e = .returned (.int .i64 r)∧Below w.heap.size w w':=by
 have HB:=aj.mk (Below.refl w.heap.size w);have H:=h;clear h;unfold fK.f at H;have HC3:=aj.mk H;clear H;go_enter Tryz.func153,Tryz.ntmps153;go_upto_region 1 with (fail);go_cut [15] (fun v15 wc=>∃ (kq:Nat) (acr:Bool),v15 = .bool acr∧aj (fK.j0 kq a0 a1 acr=some r)∧aj (kq≤k)∧aj (Below w.heap.size w wc))
 case first =>
  have H:=HC3.out;clear HC3;replace H:=zO H;obtain ⟨t156,A4,H⟩:=H;try dsimp only at H
  by_cases c5:t156=true
  ·subst c5;rw [if_pos rfl] at H;(try dsimp only at H);replace H:=zO H;obtain ⟨t157,A6,H⟩:=H;try dsimp only at H
   have H':=aj.mk H;clear H;go_wp2_with (first|((with_reducible refine ay (f:=174) rfl ?_);refine aH (some 7) rfl rfl Tryz.func174 (by kernel_rfl) rfl #[.int .i64 a0,.int .i64 a1] rfl zL ?_;(with_reducible refine (yO.calls a0 a1 true _ A4.out).mono ?_);rintro e w' ⟨rfl,⟨nd,rfl⟩⟩;refine ⟨_,rfl,?_⟩)|(go_at_call 175;(with_reducible refine (uO.calls a0 t157 _ A6.out).mono ?_);rintro e w7 ⟨rfl,hb⟩;replace HB:=aj.mk (ak zB hb);(try clear hb)));go_meet
   case rel=>exact ⟨_,(decide (t157≥(wrap64 (3*a1)))),zT,H',⟨by first|omega|exact Nat.le_refl _⟩,⟨zB⟩⟩
  ·replace c5:=Bool.eq_false_iff.mpr c5;subst c5;rw [if_neg (show ¬ (false=true) by decide)] at H;(try dsimp only at H);have H':=aj.mk H;clear H;go_wp2_with (first|((with_reducible refine ay (f:=174) rfl ?_);refine aH (some 7) rfl rfl Tryz.func174 (by kernel_rfl) rfl #[.int .i64 a0,.int .i64 a1] rfl zL ?_;(with_reducible refine (yO.calls a0 a1 false _ A4.out).mono ?_);rintro e w' ⟨rfl,⟨nd,rfl⟩⟩;refine ⟨_,rfl,?_⟩));go_meet
   case rel=>exact ⟨_,(true),zT,H',⟨by first|omega|exact Nat.le_refl _⟩,⟨zB⟩⟩
 case rest =>
  clear HC3;obtain ⟨kq,acr,rfl,HA,HJ2,HB⟩:=hcut;cases kq with
  | zero=>exact absurd HA.out (by simp [fK.j0])
  | succ kj2 =>
   have H:=HA.out;clear HA;simp only [fK.j0] at H;by_cases c8:acr=true
   ·subst c8;rw [if_pos rfl] at H;(try dsimp only at H);obtain rfl:=Option.some.inj H;go_wp2;go_ret;exact ⟨zS,zB⟩
   ·replace c8:=Bool.eq_false_iff.mpr c8;subst c8;rw [if_neg (show ¬ (false=true) by decide)] at H;(try dsimp only at H);replace H:=zO H;obtain ⟨ao2,A9,H⟩:=H;try dsimp only at H
    replace H:=zO H;obtain ⟨t159,A10,H⟩:=H;try dsimp only at H
    replace H:=zO H;obtain ⟨t160,A11,H⟩:=H;try dsimp only at H
    replace H:=zO H;obtain ⟨avG,A12,H⟩:=H;try dsimp only at H
    obtain rfl:=Option.some.inj H;go_wp2_with (first|((with_reducible refine ay (f:=177) rfl ?_);refine aH (some 18) rfl rfl Tryz.func177 (by kernel_rfl) rfl #[.int .i64 a0,.int .i64 a1] rfl zL ?_;(with_reducible refine (fJ.calls kj2 a0 a1 ao2 _ A9.out).mono ?_);rintro e w13 ⟨rfl,hb⟩;refine ⟨_,rfl,?_⟩;replace HB:=aj.mk (ak zB hb);(try clear hb))|((with_reducible refine ay (f:=177) rfl ?_);refine aH (some 22) rfl rfl Tryz.func177 (by kernel_rfl) rfl #[.int .i64 a0,.int .i64 (wrap64 (3*a1))] rfl zL ?_;(with_reducible refine (fJ.calls kj2 a0 (wrap64 (3*a1)) t159 _ A10.out).mono ?_);rintro e w14 ⟨rfl,hb⟩;refine ⟨_,rfl,?_⟩;replace HB:=aj.mk (ak zB hb);(try clear hb))|((with_reducible refine ay (f:=176) rfl ?_);refine aH (some 23) rfl rfl Tryz.func176 (by kernel_rfl) rfl #[.int .i64 ao2,.int .i64 t159,.int .i64 40] rfl zL ?_;(with_reducible refine (dL.calls kj2 ao2 t159 40 t160 _ A11.out).mono ?_);rintro e w15 ⟨rfl,hb⟩;refine ⟨_,rfl,?_⟩;replace HB:=aj.mk (ak zB hb);(try clear hb))|((with_reducible refine ay (f:=100) rfl ?_);refine aH (some 24) rfl rfl Tryz.func100 (by kernel_rfl) rfl #[.int .i64 t160,.int .i64 10] rfl zL ?_;(with_reducible refine (mF.calls t160 10 avG _ A12.out).mono ?_);rintro e w' ⟨rfl,⟨nd,rfl⟩⟩;refine ⟨_,rfl,?_⟩));go_ret;exact ⟨zS,zB⟩
def pJ.f (k:Nat) (a0 a1 a2 a3 a4:Int):Option (Int):=if a0=0 then ((bG.f k (wrap64 ((mn (wrap64 ((wrap64 (a3+1))*a1)) (wrap64 ((wrap64 (a4+1))*a2))) - (mx (wrap64 (a3*a1)) (wrap64 (a4*a2))))) 1073741824 a1).bind fun t162=>(some t162)) else (if a0=1 then ((gK.f k (wrap64 ((wrap64 ((wrap64 ((wrap64 (2*a2))*a4)) - (wrap64 ((wrap64 ((wrap64 (2*a3))+1))*a1))))+a2)) (wrap64 (2*(mx a1 a2)))).bind fun ao3=>(some ao3)) else ((fK.f k (wrap64 ((wrap64 ((wrap64 ((wrap64 (2*a2))*a4)) - (wrap64 ((wrap64 ((wrap64 (2*a3))+1))*a1))))+a2)) (wrap64 (2*(mx a1 a2)))).bind fun t164=>(some t164)))
theorem pJ.mono:∀ a0 a1 a2 a3 a4 k,LeO (pJ.f k a0 a1 a2 a3 a4) (pJ.f (k+1) a0 a1 a2 a3 a4):=by
 intro a0 a1 a2 a3 a4 k;unfold pJ.f;repeat' (with_reducible first|exact gK.mono _ _ _|exact fK.mono _ _ _|exact bG.mono _ _ _ _|exact zM|refine LeO.ite ?_ ?_|refine LeO.bind ?_ (fun _ => ?_))
theorem pJ.calls (k:Nat) (a0 a1 a2 a3 a4 r:Int) (w:World) (h:pJ.f k a0 a1 a2 a3 a4=some r) :
  Calls Tryz.prog 129 #[.int .i64 a0,.int .i64 a1,.int .i64 a2,.int .i64 a3,.int .i64 a4] w fun e w'=>e = .returned (.int .i64 r)∧Below w.heap.size w w':=by
 have HB:=aj.mk (Below.refl w.heap.size w);have H:=h;clear h;unfold pJ.f at H;by_cases c6:a0=0
 ·rw [if_pos c6] at H;have gI:(a0 == 0)=true:=beq_iff_eq.mpr c6;have vS:(a0 != 0)=false:=bne_eq_false_iff_eq.mpr c6;clear c6;obtain ⟨ji7,uF⟩:∃ j_:Int,(mn (wrap64 ((wrap64 (a3+1))*a1)) (wrap64 ((wrap64 (a4+1))*a2)))=j_:=⟨_,rfl⟩;replace H:((bG.f k (wrap64 ((ji7) - (mx (wrap64 (a3*a1)) (wrap64 (a4*a2))))) 1073741824 a1).bind fun t162=>(some t162))=some r:=(by first|(rw [uF] at H;exact H)|(simp only [uF] at H ⊢;exact H));have aCe:(if (wrap64 ((wrap64 (a4+1))*a2)) < (wrap64 ((wrap64 (a3+1))*a1)) then (wrap64 ((wrap64 (a4+1))*a2)) else (wrap64 ((wrap64 (a3+1))*a1)))=ji7:=uF;obtain ⟨ji8,sG⟩:∃ j_:Int,(mx (wrap64 (a3*a1)) (wrap64 (a4*a2)))=j_:=⟨_,rfl⟩;replace H:((bG.f k (wrap64 ((ji7) - (ji8))) 1073741824 a1).bind fun t162=>(some t162))=some r:=(by first|(rw [sG] at H;exact H)|(simp only [sG] at H ⊢;exact H));have axl:(if (wrap64 (a3*a1)) < (wrap64 (a4*a2)) then (wrap64 (a4*a2)) else (wrap64 (a3*a1)))=ji8:=sG;replace H:=zO H;obtain ⟨t162,A9,H⟩:=H;try dsimp only at H
  obtain rfl:=Option.some.inj H;go_enter Tryz.func129,Tryz.ntmps129;go_wp2_with (first|((with_reducible refine ay (f:=130) rfl ?_);refine aH (some 35) rfl rfl Tryz.func130 (by kernel_rfl) rfl #[.int .i64 (wrap64 ((ji7) - (ji8))),.int .i64 1073741824,.int .i64 a1] rfl (by (try simp only [List.map_toArray,List.map_cons,List.map_nil]);first|done|(simp only [uF,sG];rfl)|rfl|(simp only [List.length_drop,List.length_take];rfl)) ?_;(with_reducible refine (bG.calls k (wrap64 ((ji7) - (ji8))) 1073741824 a1 t162 _ A9.out).mono ?_);rintro e w' ⟨rfl,⟨nd,rfl⟩⟩;refine ⟨_,rfl,?_⟩));go_ret;exact ⟨by first|rfl|(simp [bJ,bK] <;> rfl)|(simp only [← uF,← sG];first|rfl|(simp [bJ,bK] <;> rfl))|(simp [*,bJ,bK] <;> rfl),zB⟩
 ·rw [if_neg c6] at H;have gI:(a0 == 0)=false:=beq_eq_false_iff_ne.mpr c6;have vS:(a0 != 0)=true:=bne_iff_ne.mpr c6;obtain ⟨dO,kT⟩:∃ j_:Int,(mx a1 a2)=j_:=⟨_,rfl⟩;replace H:(if a0=1 then ((gK.f k (wrap64 ((wrap64 ((wrap64 ((wrap64 (2*a2))*a4)) - (wrap64 ((wrap64 ((wrap64 (2*a3))+1))*a1))))+a2)) (wrap64 (2*(dO)))).bind fun ao3=>(some ao3)) else ((fK.f k (wrap64 ((wrap64 ((wrap64 ((wrap64 (2*a2))*a4)) - (wrap64 ((wrap64 ((wrap64 (2*a3))+1))*a1))))+a2)) (wrap64 (2*(dO)))).bind fun t164=>(some t164)))=some r:=(by first|(rw [kT] at H;exact H)|(simp only [kT] at H ⊢;exact H));have aog:(if a1 < a2 then a2 else a1)=dO:=kT;by_cases c11:a0=1
  ·rw [if_pos c11] at H;have jv:(a0 == 1)=true:=beq_iff_eq.mpr c11;have zH:(a0 != 1)=false:=bne_eq_false_iff_eq.mpr c11;clear c11;replace H:=zO H;obtain ⟨ao3,A12,H⟩:=H;try dsimp only at H
   obtain rfl:=Option.some.inj H;go_enter Tryz.func129,Tryz.ntmps129;go_wp2_with (first|((with_reducible refine ay (f:=108) rfl ?_);refine aH (some 56) rfl rfl Tryz.func108 (by kernel_rfl) rfl #[.int .i64 (wrap64 ((wrap64 ((wrap64 ((wrap64 (2*a2))*a4)) - (wrap64 ((wrap64 ((wrap64 (2*a3))+1))*a1))))+a2)),.int .i64 (wrap64 (2*(dO)))] rfl (by (try simp only [List.map_toArray,List.map_cons,List.map_nil]);first|done|(simp only [kT];rfl)|(simp only [Int.tdiv_eq_ediv_of_nonneg hji10l];rfl)|rfl|(simp only [List.length_drop,List.length_take];rfl)) ?_;(with_reducible refine (gK.calls k (wrap64 ((wrap64 ((wrap64 ((wrap64 (2*a2))*a4)) - (wrap64 ((wrap64 ((wrap64 (2*a3))+1))*a1))))+a2)) (wrap64 (2*(dO))) ao3 _ A12.out).mono ?_);rintro e w13 ⟨rfl,hb⟩;refine ⟨_,rfl,?_⟩;replace HB:=aj.mk (ak zB hb);(try clear hb)));go_ret;exact ⟨by first|rfl|(simp [bJ,bK] <;> rfl)|(simp only [← kT];first|rfl|(simp [bJ,bK] <;> rfl))|(simp [*,bJ,bK] <;> rfl),zB⟩
  ·rw [if_neg c11] at H;have jv:(a0 == 1)=false:=beq_eq_false_iff_ne.mpr c11;have zH:(a0 != 1)=true:=bne_iff_ne.mpr c11;replace H:=zO H;obtain ⟨t164,A14,H⟩:=H;try dsimp only at H
   obtain rfl:=Option.some.inj H;go_enter Tryz.func129,Tryz.ntmps129;go_wp2_with (first|((with_reducible refine ay (f:=153) rfl ?_);refine aH (some 59) rfl rfl Tryz.func153 (by kernel_rfl) rfl #[.int .i64 (wrap64 ((wrap64 ((wrap64 ((wrap64 (2*a2))*a4)) - (wrap64 ((wrap64 ((wrap64 (2*a3))+1))*a1))))+a2)),.int .i64 (wrap64 (2*(dO)))] rfl (by (try simp only [List.map_toArray,List.map_cons,List.map_nil]);first|done|(simp only [kT];rfl)|(simp only [Int.tdiv_eq_ediv_of_nonneg hji10l];rfl)|rfl|(simp only [List.length_drop,List.length_take];rfl)) ?_;(with_reducible refine (fK.calls k (wrap64 ((wrap64 ((wrap64 ((wrap64 (2*a2))*a4)) - (wrap64 ((wrap64 ((wrap64 (2*a3))+1))*a1))))+a2)) (wrap64 (2*(dO))) t164 _ A14.out).mono ?_);rintro e w15 ⟨rfl,hb⟩;refine ⟨_,rfl,?_⟩;replace HB:=aj.mk (ak zB hb);(try clear hb)));go_ret;exact ⟨by first|rfl|(simp [bJ,bK] <;> rfl)|(simp only [← kT];first|rfl|(simp [bJ,bK] <;> rfl))|(simp [*,bJ,bK] <;> rfl),zB⟩
def jd.l0:Nat→Int→Int→Int→Int→Int→List Int→Int→Int→Option (Int × List Int)
 | 0,_,_,_,_,_,_,_,_=>none
 | k+1,x0,x1,x2,x3,x8,x9,x20,x21=>if x21 < x20 then ((pJ.f k x0 x1 x2 x3 (wrap64 (x8+x21))).bind fun t167=>(if x9.length < 17592186044416 then (jd.l0 k x0 x1 x2 x3 x8 (x9 ++ [t167]) x20 (wrap64 (x21+1))) else (none))) else (some (x8,x9))
def jd.f (k:Nat) (a0 a1 a2 a3:Int):Option (Int × List Int):=(mP.f k a0 a1 a2 a3).bind fun axp=>(jd.l0 k a0 a1 a2 a3 axp.1 ([]:List Int) axp.2 0)
theorem jd.jG:∀ k,(∀ y0 y1 y2 y3 y4 y5 y6 y7,LeO (jd.l0 k y0 y1 y2 y3 y4 y5 y6 y7) (jd.l0 (k+1) y0 y1 y2 y3 y4 y5 y6 y7))
 | 0=>fun _ _ _ _ _ _ _ _ r h=>by simp [jd.l0] at h
 | k+1=>by
  have ih0:=jd.jG k
  ·intro y0 y1 y2 y3 y4 y5 y6 y7;unfold jd.l0;repeat' (with_reducible first|exact ih0 _ _ _ _ _ _ _ _|exact mP.mono _ _ _ _ _|exact pJ.mono _ _ _ _ _ _|exact zM|refine LeO.ite ?_ ?_|refine LeO.bind ?_ (fun _ => ?_))
theorem jd.mono:∀ a0 a1 a2 a3 k,LeO (jd.f k a0 a1 a2 a3) (jd.f (k+1) a0 a1 a2 a3):=by
 intro a0 a1 a2 a3 k;have ih0:=jd.jG k;unfold jd.f;repeat' (with_reducible first|exact ih0 _ _ _ _ _ _ _ _|exact mP.mono _ _ _ _ _|exact pJ.mono _ _ _ _ _ _|exact zM|refine LeO.ite ?_ ?_|refine LeO.bind ?_ (fun _ => ?_))
theorem jd.calls (k:Nat) (a0 a1 a2 a3 r1:Int) (r2:List Int) (w:World) (hG:GL w) (h:jd.f k a0 a1 a2 a3=some (r1,r2)) :
  Calls Tryz.prog 107 #[.int .i64 a0,.int .i64 a1,.int .i64 a2,.int .i64 a3] w fun e w'=>∃ v1_:Value,e = .returned (.tuple #[.int .i64 r1,v1_])∧Kd.R (Kd.int .i64) 2 w' w.heap.size (fun _=>True) v1_ r2∧Below w.heap.size w w':=by
 have HB:=aj.mk (Below.refl w.heap.size w);have H:=h;clear h;unfold jd.f at H;replace H:=zO H;obtain ⟨⟨ao4,ar6⟩,A5,H⟩:=H;try dsimp only at H
 have H':=aj.mk H;clear H;go_enter Tryz.func107,Tryz.ntmps107;go_wp2_with (first|((with_reducible refine ay (f:=128) rfl ?_);refine aH (some 17) rfl rfl Tryz.func128 (by kernel_rfl) rfl #[.int .i64 a0,.int .i64 a1,.int .i64 a2,.int .i64 a3] rfl zL ?_;(with_reducible refine (mP.calls k a0 a1 a2 a3 ao4 ar6 _ (by exact GL.below hG (by repeat (first|(with_reducible first|exact HB.out|apply aU|apply aQ|apply bD)|exact HB.out|exact Below.refl _ _))) A5.out).mono ?_);rintro e w6 ⟨rfl,hb⟩;refine ⟨_,rfl,?_⟩;replace HB:=aj.mk (ak zB hb);(try clear hb)));go_loopg [9,21] k (fun kq v9 v21 w'=>∃ (vW:List Int) (yJ:Int),v21 = .int .i64 yJ∧aj (jd.l0 kq a0 a1 a2 a3 ao4 vW ar6 yJ=some (r1,r2))∧aj (kq≤k)∧aj (Kd.R (Kd.int .i64) 2 w' w.heap.size (fun _=>True) v9 vW)∧aj (Below w.heap.size w w'))
 case atStart=>exact ⟨(([]:List Int)),(0),zT,H',⟨Nat.le_refl _⟩,⟨by first|exact Kd.kQ _ _ _ _ _|exact Kd.qM _ _ _ _ _|exact Kd.oU _ _ _ _ _|exact Kd.qN _ _ _ _ _|exact Kd.qo _ _ _ _ _⟩,⟨zB⟩⟩
 case round =>
  clear H';obtain ⟨vW,yJ,rfl,HA,HK1,ar7,HB⟩:=hrel;cases gk with
  | zero=>exact absurd HA.out (by simp [jd.l0])
  | succ k1 =>
   have H:=HA.out;clear HA;simp only [jd.l0] at H;by_cases c7:yJ < ar6
   ·rw [if_pos c7] at H;have jr:=decide_eq_true c7;clear c7;replace H:=zO H;obtain ⟨t167,A8,H⟩:=H;try dsimp only at H
    by_cases c9:vW.length < 17592186044416
    ·rw [if_pos c9] at H;have aDz:=aj.mk c9;clear c9;obtain ⟨y168,hy168⟩:∃ y_:List Int,y_=(vW ++ [t167]):=⟨_,rfl⟩;replace H:(jd.l0 k1 a0 a1 a2 a3 ao4 y168 ar6 (wrap64 (yJ+1)))=some (r1,r2):=(by first|(rw [hy168];with_reducible exact H)|(have H2_:=(Option.bind_some _ _).symm.trans H;rw [hy168];with_reducible exact H2_)|(have H2_:=(Option.bind_some _ _).symm.trans H;with_reducible exact H2_)|with_reducible exact H|(rw [hy168];exact H)|exact H);have aCf:=aj.mk hy168;clear hy168;have H':=aj.mk H;clear H;go_wp2_with (first|((with_reducible refine ay (f:=129) rfl ?_);refine aH (some 32) rfl rfl Tryz.func129 (by kernel_rfl) rfl #[.int .i64 a0,.int .i64 a1,.int .i64 a2,.int .i64 a3,.int .i64 (wrap64 (ao4+yJ))] rfl zL ?_;(with_reducible refine (pJ.calls k1 a0 a1 a2 a3 (wrap64 (ao4+yJ)) t167 _ A8.out).mono ?_);rintro e w10 ⟨rfl,hb⟩;refine ⟨_,rfl,?_⟩;obtain ⟨ar7,HB⟩:=zA2 (Kd.jE (by (with_reducible repeat (first|apply Kd.aJ|apply Kd.aN|apply Kd.aV));exact ar7.out) hb) (ak zB hb);(try clear hb))|((with_reducible refine kR (b := .append) (xs := #[.tmp 24,.tmp 33]) rfl ?_);at_builtin;refine Kd.lU (Kd.int .i64) (w0:=w) w.heap.size rfl (.tmp 24) (.tmp 33) 44 2 (.int .i64 0) 8 rfl Tryz.underlying44 yD rfl (by decide) (by omega) u9 vW t167 [.int .i64 t167] (fun _=>True) (fun _=>False) rfl rfl ?aP (fun _ hk=>hk.elim) ?aF ?aO ?aB ?aS ?aL ?_;(case aP=>exact rfl);(case aB=>exact zB);(case aF=>exact (fun _ _=>trivial));(case aO=>exact (by (with_reducible repeat (first|apply Kd.aJ|apply Kd.aN|apply Kd.aV));exact ar7.out));(case aS=>exact (bW zB));(case aL=>have:=aDz.out;omega);intro aIY w11 ho hb hg hat;rw [← aCf.out] at ho;obtain ⟨HB,aCg⟩:=zA2 hb ho;clear ho hb hg hat));go_roundg k1
     case measure=>have:=HK1.out;omega
     case rel=>exact ⟨(y168),(wrap64 (yJ+1)),zT,H',⟨by have:=HK1.out;omega⟩,⟨by (with_reducible repeat (first|apply Kd.aJ|apply Kd.aN|apply Kd.aV));exact aCg.out⟩,⟨zB⟩⟩
    ·rw [if_neg c9] at H;exact absurd H (by simp)
   ·rw [if_neg c7] at H;have jr:=decide_eq_false c7;clear c7;simp only [Option.some.injEq,Prod.mk.injEq] at H;obtain ⟨rfl,rfl⟩:=H;go_wp2;go_ret2;exact ⟨_,zS,by (with_reducible repeat (first|apply Kd.aJ|apply Kd.aN|apply Kd.aV));exact ar7.out,zB⟩
def kD.j0:Nat→Int→Int→Bool→Option (Int)
 | 0,_,_,_=>none
 | k+1,x0,x1,x11=>if x11=true then (some 0) else (if x1=0 then (none) else (if (Int.tmod x0 x1)=0 then (some (Int.tmod x0 x1)) else (if ((decide ((Int.tmod x0 x1) < 0)) != (decide (x1 < 0)))=true then (some (wrap64 ((Int.tmod x0 x1)+x1))) else (some (Int.tmod x0 x1)))))
def kD.f (k:Nat) (a0 a1:Int):Option (Int):=if a1=0 then (kD.j0 k a0 a1 true) else (kD.j0 k a0 a1 (a1 == (-1)))
theorem kD.calls (k:Nat) (a0 a1 r:Int) (w:World) (h:kD.f k a0 a1=some r) :
  Calls Tryz.prog 103 #[.int .i64 a0,.int .i64 a1] w fun e w'=>e = .returned (.int .i64 r)∧dA w w':=by
 have H:=h;clear h;unfold kD.f at H;have HC3:=aj.mk H;clear H;go_enter Tryz.func103,Tryz.ntmps103;go_upto_region 1 with (fail);go_cut [11] (fun v11 wc=>∃ (kq:Nat) (anr:Bool),v11 = .bool anr∧aj (kD.j0 kq a0 a1 anr=some r)∧aj (kq≤k)∧dA w wc)
 case first =>
  have H:=HC3.out;clear HC3;by_cases c4:a1=0
  ·rw [if_pos c4] at H;have fH:(a1 == 0)=true:=beq_iff_eq.mpr c4;have aaJ:(a1 != 0)=false:=bne_eq_false_iff_eq.mpr c4;clear c4
   (first|rw [fH]|(simp only [bP,bU];rw [fH])|skip)
   have H':=aj.mk H;clear H;go_wp2;go_meet
   case rel=>exact ⟨_,(true),zT,H',⟨by first|omega|exact Nat.le_refl _⟩,zW⟩
  ·rw [if_neg c4] at H;have fH:(a1 == 0)=false:=beq_eq_false_iff_ne.mpr c4;have aaJ:(a1 != 0)=true:=bne_iff_ne.mpr c4
   (first|rw [fH]|(simp only [bP,bU];rw [fH])|skip)
   have H':=aj.mk H;clear H;go_wp2;go_meet
   case rel=>exact ⟨_,((a1 == (-1))),zT,H',⟨by first|omega|exact Nat.le_refl _⟩,zW⟩
 case rest =>
  clear HC3;obtain ⟨kq,anr,rfl,HA,HJ2,⟨mc2,rfl⟩⟩:=hcut;cases kq with
  | zero=>exact absurd HA.out (by simp [kD.j0])
  | succ kj2 =>
   have H:=HA.out;clear HA;simp only [kD.j0] at H;by_cases c5:anr=true
   ·subst c5;rw [if_pos rfl] at H;(try dsimp only at H);obtain rfl:=Option.some.inj H;go_wp2;go_ret;exact ⟨zT,zW⟩
   ·replace c5:=Bool.eq_false_iff.mpr c5;subst c5;rw [if_neg (show ¬ (false=true) by decide)] at H;(try dsimp only at H);by_cases c6:a1=0
    ·rw [if_pos c6] at H;exact absurd H (by simp)
    ·rw [if_neg c6] at H;have gI:(a1 == 0)=false:=beq_eq_false_iff_ne.mpr c6;have vS:(a1 != 0)=true:=bne_iff_ne.mpr c6;by_cases c7:(Int.tmod a0 a1)=0
     ·rw [if_pos c7] at H;have jr:((Int.tmod a0 a1) == 0)=true:=beq_iff_eq.mpr c7;have abQ:((Int.tmod a0 a1) != 0)=false:=bne_eq_false_iff_eq.mpr c7;clear c7;obtain rfl:=Option.some.inj H;go_wp2;go_ret;exact ⟨zT,zW⟩
     ·rw [if_neg c7] at H;have jr:((Int.tmod a0 a1) == 0)=false:=beq_eq_false_iff_ne.mpr c7;have abQ:((Int.tmod a0 a1) != 0)=true:=bne_iff_ne.mpr c7;by_cases c8:((decide ((Int.tmod a0 a1) < 0)) != (decide (a1 < 0)))=true
      ·rw [if_pos c8] at H;have qg:((decide ((Int.tmod a0 a1) < 0)) != (decide (a1 < 0)))=true:=c8
       (try (have abR:decide ((decide ((Int.tmod a0 a1) < 0))=(decide (a1 < 0)))=false:=by simpa using c8))
       (try (have aDA:((decide ((Int.tmod a0 a1) < 0)) == (decide (a1 < 0)))=false:=by simpa using c8))
       (try (have aIZ:¬ ((decide ((Int.tmod a0 a1) < 0))=(decide (a1 < 0))):=by simpa using c8))
       clear c8;obtain rfl:=Option.some.inj H;go_wp2;go_ret;exact ⟨zT,zW⟩
      ·rw [if_neg c8] at H;have qg:((decide ((Int.tmod a0 a1) < 0)) != (decide (a1 < 0)))=false:=by simpa using c8
       (try (have abR:decide ((decide ((Int.tmod a0 a1) < 0))=(decide (a1 < 0)))=true:=by simpa using c8))
       (try (have aDA:((decide ((Int.tmod a0 a1) < 0)) == (decide (a1 < 0)))=true:=by simpa using c8))
       clear c8;obtain rfl:=Option.some.inj H;go_wp2;go_ret;exact ⟨zT,zW⟩
def mJ.j0:Nat→Int→Int→Int→Bool→Option (Int)
 | 0,_,_,_,_=>none
 | k+1,x0,x1,x5,x9=>if x9=true then (some 9223372036854775807) else (if x1 < 0 then (if x5 > x0 then (some (-9223372036854775808)) else (some x5)) else (some x5))
def mJ.f (k:Nat) (a0 a1:Int):Option (Int):=if a1 > 0 then (mJ.j0 k a0 a1 (wrap64 (a0+a1)) (decide ((wrap64 (a0+a1)) < a0))) else (mJ.j0 k a0 a1 (wrap64 (a0+a1)) false)
theorem mJ.calls (k:Nat) (a0 a1 r:Int) (w:World) (h:mJ.f k a0 a1=some r) :
  Calls Tryz.prog 162 #[.int .i64 a0,.int .i64 a1] w fun e w'=>e = .returned (.int .i64 r)∧dA w w':=by
 have H:=h;clear h;unfold mJ.f at H;have HC3:=aj.mk H;clear H;go_enter Tryz.func162,Tryz.ntmps162;go_upto_region 2 with (fail);go_cut [9] (fun v9 wc=>∃ (kq:Nat) (acW:Bool),v9 = .bool acW∧aj (mJ.j0 kq a0 a1 (wrap64 (a0+a1)) acW=some r)∧aj (kq≤k)∧dA w wc)
 case first =>
  have H:=HC3.out;clear HC3;by_cases c4:a1 > 0
  ·rw [if_pos c4] at H;have fH:=decide_eq_true c4;clear c4
   (first|rw [fH]|(simp only [bP,bU];rw [fH])|skip)
   have H':=aj.mk H;clear H;go_wp2;go_meet
   case rel=>exact ⟨_,(decide ((wrap64 (a0+a1)) < a0)),zT,H',⟨by first|omega|exact Nat.le_refl _⟩,zW⟩
  ·rw [if_neg c4] at H;have fH:=decide_eq_false c4;clear c4
   (first|rw [fH]|(simp only [bP,bU];rw [fH])|skip)
   have H':=aj.mk H;clear H;go_wp2;go_meet
   case rel=>exact ⟨_,(false),zT,H',⟨by first|omega|exact Nat.le_refl _⟩,zW⟩
 case rest =>
  clear HC3;obtain ⟨kq,acW,rfl,HA,HJ2,⟨mc2,rfl⟩⟩:=hcut;cases kq with
  | zero=>exact absurd HA.out (by simp [mJ.j0])
  | succ kj2 =>
   have H:=HA.out;clear HA;simp only [mJ.j0] at H;by_cases c5:acW=true
   ·subst c5;rw [if_pos rfl] at H;(try dsimp only at H);obtain rfl:=Option.some.inj H;go_wp2;go_ret;exact ⟨zT,zW⟩
   ·replace c5:=Bool.eq_false_iff.mpr c5;subst c5;rw [if_neg (show ¬ (false=true) by decide)] at H;(try dsimp only at H);by_cases c6:a1 < 0
    ·rw [if_pos c6] at H;have gI:=decide_eq_true c6;clear c6;by_cases c7:(wrap64 (a0+a1)) > a0
     ·rw [if_pos c7] at H;have jr:=decide_eq_true c7;clear c7;obtain rfl:=Option.some.inj H;go_wp2;go_ret;exact ⟨zT,zW⟩
     ·rw [if_neg c7] at H;have jr:=decide_eq_false c7;clear c7;obtain rfl:=Option.some.inj H;go_wp2;go_ret;exact ⟨zT,zW⟩
    ·rw [if_neg c6] at H;have gI:=decide_eq_false c6;clear c6;obtain rfl:=Option.some.inj H;go_wp2;go_ret;exact ⟨zT,zW⟩
def pq.l0:Nat→Int→List Int→Int→Int→Option (Int)
 | 0,_,_,_,_=>none
 | k+1,x3,x6,x7,x8=>if x8 < x7 then (if 0≤x8 then (if x8 < (x6.length:Int) then ((mJ.f k x3 (rd x6 x8)).bind fun ar8=>(pq.l0 k ar8 x6 x7 (wrap64 (x8+1)))) else (none)) else (none)) else (some x3)
def pq.f (k:Nat) (l0:List Int):Option (Int):=pq.l0 k 0 l0 (l0.length:Int) 0
theorem pq.calls (k:Nat) (A0:Option Addr) (c0:Nat) (l0:List Int) (r:Int) (w:World) (hr0:Kd.C (Kd.int .i64) w A0 l0.length l0) (hc0:l0.length≤c0) (h:pq.f k l0=some r) :
  Calls Tryz.prog 132 #[.slice A0 l0.length c0] w fun e w'=>e = .returned (.int .i64 r)∧dA w w':=by
 have HR0:=aj.mk hr0;have HC0:=aj.mk hc0;clear hr0 hc0;have H:=h;clear h;unfold pq.f at H;have H':=aj.mk H;clear H;go_enter Tryz.func132,Tryz.ntmps132;go_wp2;go_loopg [3,8] k (fun kq v3 v8 w'=>∃ (qj:Int) (iR:Int),v3 = .int .i64 qj∧v8 = .int .i64 iR∧aj (pq.l0 kq qj l0 (l0.length:Int) iR=some r)∧aj (kq≤k)∧dA w w')
 case atStart=>exact ⟨(0),(0),zT,zT,H',⟨Nat.le_refl _⟩,zW⟩
 case round =>
  clear H';obtain ⟨qj,iR,rfl,rfl,HA,HK1,⟨m1,rfl⟩⟩:=hrel;cases gk with
  | zero=>exact absurd HA.out (by simp [pq.l0])
  | succ k1 =>
   have H:=HA.out;clear HA;simp only [pq.l0] at H;by_cases c2:iR < (l0.length:Int)
   ·rw [if_pos c2] at H;have oL:=decide_eq_true c2;clear c2;by_cases c3:0≤iR
    ·rw [if_pos c3] at H;have fV:=decide_eq_true c3;clear c3;by_cases c4:iR < (l0.length:Int)
     ·rw [if_pos c4] at H;have fH:=decide_eq_true c4;clear c4;replace H:=zO H;obtain ⟨ar8,A5,H⟩:=H;try dsimp only at H
      have H':=aj.mk H;clear H;have avH:0≤(iR:Int):=of_decide_eq_true (by first|(with_reducible assumption)|assumption);have avI:iR < (l0.length:Int):=of_decide_eq_true (by first|(with_reducible assumption)|assumption);obtain ⟨aIc,aDB,aFk⟩:=Kd.iY HR0.out iR avH avI;cases aDB;replace avH:=eq_true avH;replace avI:=eq_true avI;go_wp2_with (first|((with_reducible refine ay (f:=162) rfl ?_);refine aH (some 14) rfl rfl Tryz.func162 (by kernel_rfl) rfl #[.int .i64 qj,.int .i64 (rd l0 iR)] rfl zL ?_;(with_reducible refine (mJ.calls k1 qj (rd l0 iR) ar8 _ A5.out).mono ?_);rintro e w' ⟨rfl,⟨nd,rfl⟩⟩;refine ⟨_,rfl,?_⟩));go_roundg k1
      case measure=>have:=HK1.out;omega
      case rel=>exact ⟨(ar8),(wrap64 (iR+1)),zT,zT,H',⟨by have:=HK1.out;omega⟩,zW⟩
     ·rw [if_neg c4] at H;exact absurd H (by simp)
    ·rw [if_neg c3] at H;exact absurd H (by simp)
   ·rw [if_neg c2] at H;have oL:=decide_eq_false c2;clear c2;obtain rfl:=Option.some.inj H;go_wp2;go_ret;exact ⟨zT,zW⟩
end Go.Proofs.YtpondkggmcmpfaaGreatDoor.QA
