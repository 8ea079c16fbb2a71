/- Joined by wip/tools/bundle.py out of: QAx6 QAx7 QAx8 QAx9 QAx10 QAx11. -/
import Derived.Test.YtpondkggmcmpfaaGreatDoorBDirectNever0
import Derived.Test.YtpondkggmcmpfaaGreatDoorBDirectNever1
namespace Go.Proofs.YtpondkggmcmpfaaGreatDoor.QA
open Go.Proofs.YtpondkggmcmpfaaGreatDoor.T
open Go.RowKit Go.Proofs.YtpondkggmcmpfaaGreatDoorW.PrintWords Go.Proofs.YtpondkggmcmpfaaGreatDoorW.PrintLast Go.Proofs.YtpondkggmcmpfaaGreatDoorW.PrintMore
attribute [local go_sem] dV dP dQ fC fD
set_option linter.unusedVariables false
set_option linter.unusedSimpArgs false
mutual
def aV.j2:Nat→Int→Int→Int→Int→Int→Int→Int→Int→Option (Int × Int)
 | 0,_,_,_,_,_,_,_,_=>none
 | k+1,x2,x8,x9,x10,x11,x13,x14,x15=>if x9=0 then (none) else (aV.l1 k x2 x8 x9 x10 x14 x15 (IntKind.u64.wrap ((IntKind.u64.wrap ((IntKind.u64.wrap ((IntKind.u64.wrap (x11*4294967296))+x13)) - (IntKind.u64.wrap (x15*x2)))) - (IntKind.u64.wrap ((IntKind.u64.wrap (Int.tdiv (IntKind.u64.wrap ((IntKind.u64.wrap ((IntKind.u64.wrap (x11*4294967296))+x13)) - (IntKind.u64.wrap (x15*x2)))) x9))*x9)))) (IntKind.u64.wrap ((IntKind.u64.wrap ((IntKind.u64.wrap (x11*4294967296))+x13)) - (IntKind.u64.wrap (x15*x2)))) (IntKind.u64.wrap (Int.tdiv (IntKind.u64.wrap ((IntKind.u64.wrap ((IntKind.u64.wrap (x11*4294967296))+x13)) - (IntKind.u64.wrap (x15*x2)))) x9)))
def aV.l1:Nat→Int→Int→Int→Int→Int→Int→Int→Int→Int→Option (Int × Int)
 | 0,_,_,_,_,_,_,_,_,_=>none
 | k+1,x2,x8,x9,x10,x14,x15,x16,x17,x18=>if x18≥4294967296 then (aV.j4 k x2 x8 x9 x10 x14 x15 x16 x17 x18 true) else (aV.j4 k x2 x8 x9 x10 x14 x15 x16 x17 x18 (decide ((IntKind.u64.wrap (x18*x10)) > (IntKind.u64.wrap ((IntKind.u64.wrap (4294967296*x16))+x14)))))
def aV.j4:Nat→Int→Int→Int→Int→Int→Int→Int→Int→Int→Bool→Option (Int × Int)
 | 0,_,_,_,_,_,_,_,_,_,_=>none
 | k+1,x2,x8,x9,x10,x14,x15,x16,x17,x18,x113=>if x113=true then (if (IntKind.u64.wrap (x16+x9))≥4294967296 then (if 0≤x8 then (some (IntKind.u64.wrap ((IntKind.u64.wrap (x15*4294967296))+(IntKind.u64.wrap (x18 - 1))),shr .u64 (IntKind.u64.wrap ((IntKind.u64.wrap ((IntKind.u64.wrap (x17*4294967296))+x14)) - (IntKind.u64.wrap ((IntKind.u64.wrap (x18 - 1))*x2)))) x8)) else (none)) else (aV.l1 k x2 x8 x9 x10 x14 x15 (IntKind.u64.wrap (x16+x9)) x17 (IntKind.u64.wrap (x18 - 1)))) else (if 0≤x8 then (some (IntKind.u64.wrap ((IntKind.u64.wrap (x15*4294967296))+x18),shr .u64 (IntKind.u64.wrap ((IntKind.u64.wrap ((IntKind.u64.wrap (x17*4294967296))+x14)) - (IntKind.u64.wrap (x18*x2)))) x8)) else (none))
def aV.l0:Nat→Int→Int→Int→Int→Int→Int→Int→Int→Int→Option (Int × Int)
 | 0,_,_,_,_,_,_,_,_,_=>none
 | k+1,x2,x8,x9,x10,x11,x13,x14,x15,x16=>if x15≥4294967296 then (aV.j1 k x2 x8 x9 x10 x11 x13 x14 x15 x16 true) else (aV.j1 k x2 x8 x9 x10 x11 x13 x14 x15 x16 (decide ((IntKind.u64.wrap (x15*x10)) > (IntKind.u64.wrap ((IntKind.u64.wrap (4294967296*x16))+x13)))))
def aV.j1:Nat→Int→Int→Int→Int→Int→Int→Int→Int→Int→Bool→Option (Int × Int)
 | 0,_,_,_,_,_,_,_,_,_,_=>none
 | k+1,x2,x8,x9,x10,x11,x13,x14,x15,x16,x78=>if x78=true then (if (IntKind.u64.wrap (x16+x9))≥4294967296 then (aV.j2 k x2 x8 x9 x10 x11 x13 x14 (IntKind.u64.wrap (x15 - 1))) else (aV.l0 k x2 x8 x9 x10 x11 x13 x14 (IntKind.u64.wrap (x15 - 1)) (IntKind.u64.wrap (x16+x9)))) else (aV.j2 k x2 x8 x9 x10 x11 x13 x14 x15)
end
def aV.f (k:Nat) (a0 a1 a2:Int):Option (Int × Int):=if a2=0 then (none) else (if a2≤a0 then (none) else (if a0=0 then (some (IntKind.u64.wrap (Int.tdiv a1 a2),Int.tmod a1 a2)) else ((bits_LeadingZeros64.f a2).bind fun qM=>(if 0≤(IntKind.u64.wrap (qM)) then (if 0≤(IntKind.u64.wrap (64 - (IntKind.u64.wrap (qM)))) then (if ((shl .u64 a2 (IntKind.u64.wrap (qM))) / 4294967296)=0 then (none) else (aV.l0 k (shl .u64 a2 (IntKind.u64.wrap (qM))) (IntKind.u64.wrap (qM)) ((shl .u64 a2 (IntKind.u64.wrap (qM))) / 4294967296) (Go.bits .and .u64 (shl .u64 a2 (IntKind.u64.wrap (qM))) 4294967295) (Go.bits .or .u64 (shl .u64 a0 (IntKind.u64.wrap (qM))) (shr .u64 a1 (IntKind.u64.wrap (64 - (IntKind.u64.wrap (qM)))))) ((shl .u64 a1 (IntKind.u64.wrap (qM))) / 4294967296) (Go.bits .and .u64 (shl .u64 a1 (IntKind.u64.wrap (qM))) 4294967295) (IntKind.u64.wrap (Int.tdiv (Go.bits .or .u64 (shl .u64 a0 (IntKind.u64.wrap (qM))) (shr .u64 a1 (IntKind.u64.wrap (64 - (IntKind.u64.wrap (qM)))))) ((shl .u64 a2 (IntKind.u64.wrap (qM))) / 4294967296))) (IntKind.u64.wrap ((Go.bits .or .u64 (shl .u64 a0 (IntKind.u64.wrap (qM))) (shr .u64 a1 (IntKind.u64.wrap (64 - (IntKind.u64.wrap (qM)))))) - (IntKind.u64.wrap ((IntKind.u64.wrap (Int.tdiv (Go.bits .or .u64 (shl .u64 a0 (IntKind.u64.wrap (qM))) (shr .u64 a1 (IntKind.u64.wrap (64 - (IntKind.u64.wrap (qM)))))) ((shl .u64 a2 (IntKind.u64.wrap (qM))) / 4294967296)))*((shl .u64 a2 (IntKind.u64.wrap (qM))) / 4294967296))))))) else (none)) else (none)))))
theorem aV.jd:∀ k,(∀ y0 y1 y2 y3 y4 y5 y6 y7,LeO (aV.j2 k y0 y1 y2 y3 y4 y5 y6 y7) (aV.j2 (k+1) y0 y1 y2 y3 y4 y5 y6 y7))∧(∀ y0 y1 y2 y3 y4 y5 y6 y7 y8,LeO (aV.l1 k y0 y1 y2 y3 y4 y5 y6 y7 y8) (aV.l1 (k+1) y0 y1 y2 y3 y4 y5 y6 y7 y8))∧(∀ y0 y1 y2 y3 y4 y5 y6 y7 y8 y9,LeO (aV.j4 k y0 y1 y2 y3 y4 y5 y6 y7 y8 y9) (aV.j4 (k+1) y0 y1 y2 y3 y4 y5 y6 y7 y8 y9))∧(∀ y0 y1 y2 y3 y4 y5 y6 y7 y8,LeO (aV.l0 k y0 y1 y2 y3 y4 y5 y6 y7 y8) (aV.l0 (k+1) y0 y1 y2 y3 y4 y5 y6 y7 y8))∧(∀ y0 y1 y2 y3 y4 y5 y6 y7 y8 y9,LeO (aV.j1 k y0 y1 y2 y3 y4 y5 y6 y7 y8 y9) (aV.j1 (k+1) y0 y1 y2 y3 y4 y5 y6 y7 y8 y9))
 | 0=>⟨fun _ _ _ _ _ _ _ _ r h=>by simp [aV.j2] at h,fun _ _ _ _ _ _ _ _ _ r h=>by simp [aV.l1] at h,fun _ _ _ _ _ _ _ _ _ _ r h=>by simp [aV.j4] at h,fun _ _ _ _ _ _ _ _ _ r h=>by simp [aV.l0] at h,fun _ _ _ _ _ _ _ _ _ _ r h=>by simp [aV.j1] at h⟩
 | k+1=>by
  obtain ⟨ih0,ih1,ih2,ih3,ih4⟩:=aV.jd k
  refine ⟨?_,?_,?_,?_,?_⟩
  ·intro y0 y1 y2 y3 y4 y5 y6 y7
   unfold aV.j2
   repeat' (with_reducible first|exact ih0 _ _ _ _ _ _ _ _|exact ih1 _ _ _ _ _ _ _ _ _|exact ih2 _ _ _ _ _ _ _ _ _ _|exact ih3 _ _ _ _ _ _ _ _ _|exact ih4 _ _ _ _ _ _ _ _ _ _|exact zM|refine LeO.ite ?_ ?_|refine LeO.bind ?_ (fun _ => ?_))
  ·intro y0 y1 y2 y3 y4 y5 y6 y7 y8
   unfold aV.l1
   repeat' (with_reducible first|exact ih0 _ _ _ _ _ _ _ _|exact ih1 _ _ _ _ _ _ _ _ _|exact ih2 _ _ _ _ _ _ _ _ _ _|exact ih3 _ _ _ _ _ _ _ _ _|exact ih4 _ _ _ _ _ _ _ _ _ _|exact zM|refine LeO.ite ?_ ?_|refine LeO.bind ?_ (fun _ => ?_))
  ·intro y0 y1 y2 y3 y4 y5 y6 y7 y8 y9
   unfold aV.j4
   repeat' (with_reducible first|exact ih0 _ _ _ _ _ _ _ _|exact ih1 _ _ _ _ _ _ _ _ _|exact ih2 _ _ _ _ _ _ _ _ _ _|exact ih3 _ _ _ _ _ _ _ _ _|exact ih4 _ _ _ _ _ _ _ _ _ _|exact zM|refine LeO.ite ?_ ?_|refine LeO.bind ?_ (fun _ => ?_))
  ·intro y0 y1 y2 y3 y4 y5 y6 y7 y8
   unfold aV.l0
   repeat' (with_reducible first|exact ih0 _ _ _ _ _ _ _ _|exact ih1 _ _ _ _ _ _ _ _ _|exact ih2 _ _ _ _ _ _ _ _ _ _|exact ih3 _ _ _ _ _ _ _ _ _|exact ih4 _ _ _ _ _ _ _ _ _ _|exact zM|refine LeO.ite ?_ ?_|refine LeO.bind ?_ (fun _ => ?_))
  ·intro y0 y1 y2 y3 y4 y5 y6 y7 y8 y9
   unfold aV.j1
   repeat' (with_reducible first|exact ih0 _ _ _ _ _ _ _ _|exact ih1 _ _ _ _ _ _ _ _ _|exact ih2 _ _ _ _ _ _ _ _ _ _|exact ih3 _ _ _ _ _ _ _ _ _|exact ih4 _ _ _ _ _ _ _ _ _ _|exact zM|refine LeO.ite ?_ ?_|refine LeO.bind ?_ (fun _ => ?_))
theorem aV.mono:∀ a0 a1 a2 k,LeO (aV.f k a0 a1 a2) (aV.f (k+1) a0 a1 a2):=by
 intro a0 a1 a2 k
 obtain ⟨ih0,ih1,ih2,ih3,ih4⟩:=aV.jd k
 unfold aV.f
 repeat' (with_reducible first|exact ih0 _ _ _ _ _ _ _ _|exact ih1 _ _ _ _ _ _ _ _ _|exact ih2 _ _ _ _ _ _ _ _ _ _|exact ih3 _ _ _ _ _ _ _ _ _|exact ih4 _ _ _ _ _ _ _ _ _ _|exact zM|refine LeO.ite ?_ ?_|refine LeO.bind ?_ (fun _ => ?_))
set_option maxHeartbeats 8000000 in
set_option maxRecDepth 100000 in
theorem aV.calls (k:Nat) (a0 a1 a2 r1 r2:Int) (w:World) (h:aV.f k a0 a1 a2=some (r1,r2)) :
  Calls Tryz.prog 157 #[.int .u64 a0,.int .u64 a1,.int .u64 a2] w fun e w'=>e = .returned (.tuple #[.int .u64 r1,.int .u64 r2])∧cO w w':=by
 have H:=h
 clear h
 unfold aV.f at H
 by_cases c4:a2=0
 ·rw [if_pos c4] at H
  exact absurd H (by simp)
 ·rw [if_neg c4] at H
  have fB:(a2 == 0)=false:=beq_eq_false_iff_ne.mpr c4
  have aaI:(a2 != 0)=true:=bne_iff_ne.mpr c4
  by_cases c5:a2≤a0
  ·rw [if_pos c5] at H
   exact absurd H (by simp)
  ·rw [if_neg c5] at H
   have gQ:=decide_eq_false c5
   clear c5
   by_cases c6:a0=0
   ·rw [if_pos c6] at H
    have iw:(a0 == 0)=true:=beq_iff_eq.mpr c6
    have vI:(a0 != 0)=false:=bne_eq_false_iff_eq.mpr c6
    clear c6
    simp only [Option.some.injEq,Prod.mk.injEq] at H
    obtain ⟨rfl,rfl⟩:=H
    go_enter Tryz.func157,Tryz.ntmps157
    go_wp2
    repeat (go_quiet (fail);try go_wp2)
    go_ret2
    exact ⟨zT,zW⟩
   ·rw [if_neg c6] at H
    have iw:(a0 == 0)=false:=beq_eq_false_iff_ne.mpr c6
    have vI:(a0 != 0)=true:=bne_iff_ne.mpr c6
    replace H:=zO H
    obtain ⟨qM,A7,H⟩:=H
    try dsimp only at H
    obtain ⟨ji8,qN⟩:∃ j_:Int,(IntKind.u64.wrap (qM))=j_:=⟨_,rfl⟩
    replace H:(if 0≤(ji8) then (if 0≤(IntKind.u64.wrap (64 - (ji8))) then (if ((shl .u64 a2 (ji8)) / 4294967296)=0 then (none) else (aV.l0 k (shl .u64 a2 (ji8)) ji8 ((shl .u64 a2 (ji8)) / 4294967296) (Go.bits .and .u64 (shl .u64 a2 (ji8)) 4294967295) (Go.bits .or .u64 (shl .u64 a0 (ji8)) (shr .u64 a1 (IntKind.u64.wrap (64 - (ji8))))) ((shl .u64 a1 (ji8)) / 4294967296) (Go.bits .and .u64 (shl .u64 a1 (ji8)) 4294967295) (IntKind.u64.wrap (Int.tdiv (Go.bits .or .u64 (shl .u64 a0 (ji8)) (shr .u64 a1 (IntKind.u64.wrap (64 - (ji8))))) ((shl .u64 a2 (ji8)) / 4294967296))) (IntKind.u64.wrap ((Go.bits .or .u64 (shl .u64 a0 (ji8)) (shr .u64 a1 (IntKind.u64.wrap (64 - (ji8))))) - (IntKind.u64.wrap ((IntKind.u64.wrap (Int.tdiv (Go.bits .or .u64 (shl .u64 a0 (ji8)) (shr .u64 a1 (IntKind.u64.wrap (64 - (ji8))))) ((shl .u64 a2 (ji8)) / 4294967296)))*((shl .u64 a2 (ji8)) / 4294967296))))))) else (none)) else (none))=some (r1,r2):=by first|(rw [qN] at H;exact H)|(simp only [qN] at H ⊢;exact H)
    (try rw [qN] at A7)
    by_cases c9:0≤(ji8)
    ·rw [if_pos c9] at H
     have qA:=eq_true c9
     have abR:=decide_eq_true c9
     clear c9
     obtain ⟨dF,jU⟩:∃ j_:Int,(shl .u64 a2 (ji8))=j_:=⟨_,rfl⟩
     replace H:(if 0≤(IntKind.u64.wrap (64 - (ji8))) then (if ((dF) / 4294967296)=0 then (none) else (aV.l0 k dF ji8 ((dF) / 4294967296) (Go.bits .and .u64 (dF) 4294967295) (Go.bits .or .u64 (shl .u64 a0 (ji8)) (shr .u64 a1 (IntKind.u64.wrap (64 - (ji8))))) ((shl .u64 a1 (ji8)) / 4294967296) (Go.bits .and .u64 (shl .u64 a1 (ji8)) 4294967295) (IntKind.u64.wrap (Int.tdiv (Go.bits .or .u64 (shl .u64 a0 (ji8)) (shr .u64 a1 (IntKind.u64.wrap (64 - (ji8))))) ((dF) / 4294967296))) (IntKind.u64.wrap ((Go.bits .or .u64 (shl .u64 a0 (ji8)) (shr .u64 a1 (IntKind.u64.wrap (64 - (ji8))))) - (IntKind.u64.wrap ((IntKind.u64.wrap (Int.tdiv (Go.bits .or .u64 (shl .u64 a0 (ji8)) (shr .u64 a1 (IntKind.u64.wrap (64 - (ji8))))) ((dF) / 4294967296)))*((dF) / 4294967296))))))) else (none))=some (r1,r2):=by first|(rw [jU] at H;exact H)|(simp only [jU] at H ⊢;exact H)
     (try rw [jU] at A7)
     have alR:(IntKind.u64.wrap (a2*2 ^ min (ji8).toNat 64))=dF:=jU
     have apC:(ji8)≤64→(IntKind.u64.wrap (a2*2 ^ (ji8).toNat))=dF:=yP jU
     have iQ:=eq_true (of_decide_eq_true (by first|(with_reducible assumption)|assumption):0≤(ji8))
     obtain ⟨jA,pO⟩:∃ j_:Int,(shl .u64 a0 (ji8))=j_:=⟨_,rfl⟩
     replace H:(if 0≤(IntKind.u64.wrap (64 - (ji8))) then (if ((dF) / 4294967296)=0 then (none) else (aV.l0 k dF ji8 ((dF) / 4294967296) (Go.bits .and .u64 (dF) 4294967295) (Go.bits .or .u64 (jA) (shr .u64 a1 (IntKind.u64.wrap (64 - (ji8))))) ((shl .u64 a1 (ji8)) / 4294967296) (Go.bits .and .u64 (shl .u64 a1 (ji8)) 4294967295) (IntKind.u64.wrap (Int.tdiv (Go.bits .or .u64 (jA) (shr .u64 a1 (IntKind.u64.wrap (64 - (ji8))))) ((dF) / 4294967296))) (IntKind.u64.wrap ((Go.bits .or .u64 (jA) (shr .u64 a1 (IntKind.u64.wrap (64 - (ji8))))) - (IntKind.u64.wrap ((IntKind.u64.wrap (Int.tdiv (Go.bits .or .u64 (jA) (shr .u64 a1 (IntKind.u64.wrap (64 - (ji8))))) ((dF) / 4294967296)))*((dF) / 4294967296))))))) else (none))=some (r1,r2):=by first|(rw [pO] at H;exact H)|(simp only [pO] at H ⊢;exact H)
     (try rw [pO] at A7)
     have avr:(IntKind.u64.wrap (a0*2 ^ min (ji8).toNat 64))=jA:=pO
     have aAT:(ji8)≤64→(IntKind.u64.wrap (a0*2 ^ (ji8).toNat))=jA:=yP pO
     obtain ⟨ac4,ahV⟩:∃ j_:Int,(IntKind.u64.wrap (64 - (ji8)))=j_:=⟨_,rfl⟩
     replace H:(if 0≤(ac4) then (if ((dF) / 4294967296)=0 then (none) else (aV.l0 k dF ji8 ((dF) / 4294967296) (Go.bits .and .u64 (dF) 4294967295) (Go.bits .or .u64 (jA) (shr .u64 a1 (ac4))) ((shl .u64 a1 (ji8)) / 4294967296) (Go.bits .and .u64 (shl .u64 a1 (ji8)) 4294967295) (IntKind.u64.wrap (Int.tdiv (Go.bits .or .u64 (jA) (shr .u64 a1 (ac4))) ((dF) / 4294967296))) (IntKind.u64.wrap ((Go.bits .or .u64 (jA) (shr .u64 a1 (ac4))) - (IntKind.u64.wrap ((IntKind.u64.wrap (Int.tdiv (Go.bits .or .u64 (jA) (shr .u64 a1 (ac4))) ((dF) / 4294967296)))*((dF) / 4294967296))))))) else (none))=some (r1,r2):=by first|(rw [ahV] at H;exact H)|(simp only [ahV] at H ⊢;exact H)
     (try rw [ahV] at A7)
     by_cases c14:0≤(ac4)
     ·rw [if_pos c14] at H
      have acG:=eq_true c14
      have aod:=decide_eq_true c14
      clear c14
      obtain ⟨qc,aah⟩:∃ j_:Int,(shr .u64 a1 (ac4))=j_:=⟨_,rfl⟩
      replace H:(if ((dF) / 4294967296)=0 then (none) else (aV.l0 k dF ji8 ((dF) / 4294967296) (Go.bits .and .u64 (dF) 4294967295) (Go.bits .or .u64 (jA) (qc)) ((shl .u64 a1 (ji8)) / 4294967296) (Go.bits .and .u64 (shl .u64 a1 (ji8)) 4294967295) (IntKind.u64.wrap (Int.tdiv (Go.bits .or .u64 (jA) (qc)) ((dF) / 4294967296))) (IntKind.u64.wrap ((Go.bits .or .u64 (jA) (qc)) - (IntKind.u64.wrap ((IntKind.u64.wrap (Int.tdiv (Go.bits .or .u64 (jA) (qc)) ((dF) / 4294967296)))*((dF) / 4294967296)))))))=some (r1,r2):=by first|(rw [aah] at H;exact H)|(simp only [aah] at H ⊢;exact H)
      (try rw [aah] at A7)
      have aAU:(a1 / 2 ^ min (ac4).toNat 64)=qc:=aah
      have aAV:(ac4)≤64→(a1 / 2 ^ (ac4).toNat)=qc:=qp aah
      have aCA:=eq_true (of_decide_eq_true (by first|(with_reducible assumption)|assumption):0≤(ji8))
      obtain ⟨nS,aai⟩:∃ j_:Int,(shl .u64 a1 (ji8))=j_:=⟨_,rfl⟩
      replace H:(if ((dF) / 4294967296)=0 then (none) else (aV.l0 k dF ji8 ((dF) / 4294967296) (Go.bits .and .u64 (dF) 4294967295) (Go.bits .or .u64 (jA) (qc)) ((nS) / 4294967296) (Go.bits .and .u64 (nS) 4294967295) (IntKind.u64.wrap (Int.tdiv (Go.bits .or .u64 (jA) (qc)) ((dF) / 4294967296))) (IntKind.u64.wrap ((Go.bits .or .u64 (jA) (qc)) - (IntKind.u64.wrap ((IntKind.u64.wrap (Int.tdiv (Go.bits .or .u64 (jA) (qc)) ((dF) / 4294967296)))*((dF) / 4294967296)))))))=some (r1,r2):=by first|(rw [aai] at H;exact H)|(simp only [aai] at H ⊢;exact H)
      (try rw [aai] at A7)
      have aAW:(IntKind.u64.wrap (a1*2 ^ min (ji8).toNat 64))=nS:=aai
      have aAX:(ji8)≤64→(IntKind.u64.wrap (a1*2 ^ (ji8).toNat))=nS:=yP aai
      by_cases c18:((dF) / 4294967296)=0
      ·rw [if_pos c18] at H
       exact absurd H (by simp)
      ·rw [if_neg c18] at H
       have aCB:(((dF) / 4294967296) == 0)=false:=beq_eq_false_iff_ne.mpr c18
       have aCC:(((dF) / 4294967296) != 0)=true:=bne_iff_ne.mpr c18
       have arv:=aj.mk H
       clear H
       go_enter Tryz.func157,Tryz.ntmps157
       go_upto_block 0 with (first|(go_at_call 179;(with_reducible refine (bits_LeadingZeros64.calls a2 qM _ A7.out).mono ?_);rintro e w' ⟨rfl,⟨nd,rfl⟩⟩;(try exact ⟨rfl,_,zN⟩)))
       repeat (go_quiet (first|(go_at_call 179;(with_reducible refine (bits_LeadingZeros64.calls a2 qM _ A7.out).mono ?_);rintro e w' ⟨rfl,⟨nd,rfl⟩⟩;(try exact ⟨rfl,_,zN⟩)));go_upto_block 0 with (first|(go_at_call 179;(with_reducible refine (bits_LeadingZeros64.calls a2 qM _ A7.out).mono ?_);rintro e w' ⟨rfl,⟨nd,rfl⟩⟩;(try exact ⟨rfl,_,zN⟩))))
       (try simp only [Act.put,List.setIfInBounds_toArray,List.set_cons_zero,List.set_cons_succ])
       go_cut [15] (fun v15 wc=>∃ (kq:Nat) (pR:Int),v15 = .int .u64 pR∧aj (aV.j2 kq dF ji8 ((dF) / 4294967296) (Go.bits .and .u64 (dF) 4294967295) (Go.bits .or .u64 (jA) (qc)) ((nS) / 4294967296) (Go.bits .and .u64 (nS) 4294967295) pR=some (r1,r2))∧aj (kq≤k)∧cO w wc)
       case first =>
        have H:=arv.out
        clear arv
        have H':=aj.mk H
        clear H
        go_wp2
        repeat (go_quiet (fail);try go_wp2)
        go_loopg [15,16] k (fun kq v15 v16 w'=>∃ (abC:Int) (yC:Int),v15 = .int .u64 abC∧v16 = .int .u64 yC∧aj (aV.l0 kq dF ji8 ((dF) / 4294967296) (Go.bits .and .u64 (dF) 4294967295) (Go.bits .or .u64 (jA) (qc)) ((nS) / 4294967296) (Go.bits .and .u64 (nS) 4294967295) abC yC=some (r1,r2))∧aj (kq≤k)∧cO w w')
        case atStart=>exact ⟨(IntKind.u64.wrap (Int.tdiv (Go.bits .or .u64 (jA) (qc)) ((dF) / 4294967296))),(IntKind.u64.wrap ((Go.bits .or .u64 (jA) (qc)) - (IntKind.u64.wrap ((IntKind.u64.wrap (Int.tdiv (Go.bits .or .u64 (jA) (qc)) ((dF) / 4294967296)))*((dF) / 4294967296))))),(by first|rfl|(simp;done)|(simp only [← jU,← pO,← aah] <;> (first|rfl|simp))|(simp [*];done)),(by first|rfl|(simp;done)|(simp only [← jU,← pO,← aah] <;> (first|rfl|simp))|(simp [*];done)),H',⟨Nat.le_refl _⟩,zW⟩
        case round =>
         clear H'
         obtain ⟨abC,yC,rfl,rfl,HA,HK1,⟨m1,rfl⟩⟩:=hrel
         cases gk with
         | zero=>exact absurd HA.out (by simp [aV.l0])
         | succ k1 =>
          have H:=HA.out
          clear HA
          simp only [aV.l0] at H
          have arw:=aj.mk H
          clear H
          go_upto_region 17 with (fail)
          repeat (go_quiet (fail);go_upto_region 17 with (fail))
          go_cut [78] (fun v78 wc=>∃ (kq:Nat) (ahW:Bool),v78 = .bool ahW∧aj (aV.j1 kq dF ji8 ((dF) / 4294967296) (Go.bits .and .u64 (dF) 4294967295) (Go.bits .or .u64 (jA) (qc)) ((nS) / 4294967296) (Go.bits .and .u64 (nS) 4294967295) abC yC ahW=some (r1,r2))∧aj (kq≤k1)∧cO w wc)
          case first =>
           have H:=arw.out
           clear arw
           by_cases c21:abC≥4294967296
           ·rw [if_pos c21] at H
            have adV:=decide_eq_true c21
            clear c21
            (first|rw [adV]|(simp only [bY,dw];rw [adV])|skip)
            have H':=aj.mk H
            clear H
            go_wp2
            repeat (go_quiet (fail);try go_wp2)
            go_meet
            case rel=>exact ⟨_,(true),zT,H',⟨by have:=HK1.out;first|omega|exact Nat.le_refl _⟩,zW⟩
           ·rw [if_neg c21] at H
            have adV:=decide_eq_false c21
            clear c21
            (first|rw [adV]|(simp only [bY,dw];rw [adV])|skip)
            have H':=aj.mk H
            clear H
            go_wp2
            repeat (go_quiet (fail);try go_wp2)
            go_meet
            case rel=>exact ⟨_,(decide ((IntKind.u64.wrap (abC*(Go.bits .and .u64 (dF) 4294967295))) > (IntKind.u64.wrap ((IntKind.u64.wrap (4294967296*yC))+((nS) / 4294967296))))),(by first|rfl|(simp;done)|(simp only [← jU,← aai] <;> (first|rfl|simp))|(simp [*];done)),H',⟨by have:=HK1.out;first|omega|exact Nat.le_refl _⟩,zW⟩
          case rest =>
           clear arw
           obtain ⟨kq,ahW,rfl,HA,aok,⟨aEg,rfl⟩⟩:=hcut
           cases kq with
           | zero=>exact absurd HA.out (by simp [aV.j1])
           | succ azb =>
            have H:=HA.out
            clear HA
            simp only [aV.j1] at H
            by_cases c22:ahW=true
            ·subst c22
             rw [if_pos rfl] at H;try dsimp only at H
             by_cases c23:(IntKind.u64.wrap (yC+((dF) / 4294967296)))≥4294967296
             ·rw [if_pos c23] at H
              have an4:=decide_eq_true c23
              clear c23
              have H':=aj.mk H
              clear H
              go_wp2
              repeat (go_quiet (fail);try go_wp2)
              go_meet
              case rel=>exact ⟨_,(IntKind.u64.wrap (abC - 1)),zT,H',⟨by have:=HK1.out;have:=aok.out;first|omega|exact Nat.le_refl _⟩,zW⟩
             ·rw [if_neg c23] at H
              have an4:=decide_eq_false c23
              clear c23
              have H':=aj.mk H
              clear H
              go_wp2
              repeat (go_quiet (fail);try go_wp2)
              go_roundg azb
              case measure=>have:=HK1.out;have:=aok.out;omega
              case rel=>exact ⟨(IntKind.u64.wrap (abC - 1)),(IntKind.u64.wrap (yC+((dF) / 4294967296))),zT,(by first|rfl|(simp;done)|(simp only [← jU] <;> (first|rfl|simp))|(simp [*];done)),H',⟨by have:=HK1.out;have:=aok.out;omega⟩,zW⟩
            ·replace c22:=Bool.eq_false_iff.mpr c22
             subst c22
             rw [if_neg (show ¬ (false=true) by decide)] at H;try dsimp only at H
             have H':=aj.mk H
             clear H
             go_wp2
             repeat (go_quiet (fail);try go_wp2)
             go_meet
             case rel=>exact ⟨_,(abC),zT,H',⟨by have:=HK1.out;have:=aok.out;first|omega|exact Nat.le_refl _⟩,zW⟩
       case rest =>
        clear arv
        obtain ⟨kq,pR,rfl,HA,aol,⟨aEh,rfl⟩⟩:=hcut
        cases kq with
        | zero=>exact absurd HA.out (by simp [aV.j2])
        | succ avs =>
         have H:=HA.out
         clear HA
         simp only [aV.j2] at H
         by_cases c24:((dF) / 4294967296)=0
         ·rw [if_pos c24] at H
          exact absurd H (by simp)
         ·rw [if_neg c24] at H
          have awR:(((dF) / 4294967296) == 0)=false:=beq_eq_false_iff_ne.mpr c24
          have aCD:(((dF) / 4294967296) != 0)=true:=bne_iff_ne.mpr c24
          have H':=aj.mk H
          clear H
          go_wp2
          repeat (go_quiet (fail);try go_wp2)
          go_loopg [16,18] avs (fun kq v16 v18 w'=>∃ (ad3:Int) (vS:Int),v16 = .int .u64 ad3∧v18 = .int .u64 vS∧aj (aV.l1 kq dF ji8 ((dF) / 4294967296) (Go.bits .and .u64 (dF) 4294967295) (Go.bits .and .u64 (nS) 4294967295) pR ad3 (IntKind.u64.wrap ((IntKind.u64.wrap ((IntKind.u64.wrap ((Go.bits .or .u64 (jA) (qc))*4294967296))+((nS) / 4294967296))) - (IntKind.u64.wrap (pR*dF)))) vS=some (r1,r2))∧aj (kq≤avs)∧cO w w')
          case atStart=>exact ⟨(IntKind.u64.wrap ((IntKind.u64.wrap ((IntKind.u64.wrap ((IntKind.u64.wrap ((Go.bits .or .u64 (jA) (qc))*4294967296))+((nS) / 4294967296))) - (IntKind.u64.wrap (pR*dF)))) - (IntKind.u64.wrap ((IntKind.u64.wrap (Int.tdiv (IntKind.u64.wrap ((IntKind.u64.wrap ((IntKind.u64.wrap ((Go.bits .or .u64 (jA) (qc))*4294967296))+((nS) / 4294967296))) - (IntKind.u64.wrap (pR*dF)))) ((dF) / 4294967296)))*((dF) / 4294967296))))),(IntKind.u64.wrap (Int.tdiv (IntKind.u64.wrap ((IntKind.u64.wrap ((IntKind.u64.wrap ((Go.bits .or .u64 (jA) (qc))*4294967296))+((nS) / 4294967296))) - (IntKind.u64.wrap (pR*dF)))) ((dF) / 4294967296))),(by first|rfl|(simp;done)|(simp only [← jU,← pO,← aah,← aai] <;> (first|rfl|simp))|(simp [*];done)),(by first|rfl|(simp;done)|(simp only [← jU,← pO,← aah,← aai] <;> (first|rfl|simp))|(simp [*];done)),H',⟨Nat.le_refl _⟩,zW⟩
          case round =>
           clear H'
           obtain ⟨ad3,vS,rfl,rfl,HA,HK2,⟨m2,rfl⟩⟩:=hrel
           cases gk with
           | zero=>exact absurd HA.out (by simp [aV.l1])
           | succ k2 =>
            have H:=HA.out
            clear HA
            simp only [aV.l1] at H
            have arx:=aj.mk H
            clear H
            go_upto_region 24 with (fail)
            repeat (go_quiet (fail);go_upto_region 24 with (fail))
            go_cut [113] (fun azc wc=>∃ (kq:Nat) (afQ:Bool),azc = .bool afQ∧aj (aV.j4 kq dF ji8 ((dF) / 4294967296) (Go.bits .and .u64 (dF) 4294967295) (Go.bits .and .u64 (nS) 4294967295) pR ad3 (IntKind.u64.wrap ((IntKind.u64.wrap ((IntKind.u64.wrap ((Go.bits .or .u64 (jA) (qc))*4294967296))+((nS) / 4294967296))) - (IntKind.u64.wrap (pR*dF)))) vS afQ=some (r1,r2))∧aj (kq≤k2)∧cO w wc)
            case first =>
             have H:=arx.out
             clear arx
             by_cases c26:vS≥4294967296
             ·rw [if_pos c26] at H
              have afP:=decide_eq_true c26
              clear c26
              (first|rw [afP]|(simp only [bY,dw];rw [afP])|skip)
              have H':=aj.mk H
              clear H
              go_wp2
              repeat (go_quiet (fail);try go_wp2)
              go_meet
              case rel=>exact ⟨_,(true),zT,H',⟨by have:=aol.out;have:=HK2.out;first|omega|exact Nat.le_refl _⟩,zW⟩
             ·rw [if_neg c26] at H
              have afP:=decide_eq_false c26
              clear c26
              (first|rw [afP]|(simp only [bY,dw];rw [afP])|skip)
              have H':=aj.mk H
              clear H
              go_wp2
              repeat (go_quiet (fail);try go_wp2)
              go_meet
              case rel=>exact ⟨_,(decide ((IntKind.u64.wrap (vS*(Go.bits .and .u64 (dF) 4294967295))) > (IntKind.u64.wrap ((IntKind.u64.wrap (4294967296*ad3))+(Go.bits .and .u64 (nS) 4294967295))))),(by first|rfl|(simp;done)|(simp only [← jU,← aai] <;> (first|rfl|simp))|(simp [*];done)),H',⟨by have:=aol.out;have:=HK2.out;first|omega|exact Nat.le_refl _⟩,zW⟩
            case rest =>
             clear arx
             obtain ⟨kq,afQ,rfl,HA,avt,⟨aEi,rfl⟩⟩:=hcut
             cases kq with
             | zero=>exact absurd HA.out (by simp [aV.j4])
             | succ azd =>
              have H:=HA.out
              clear HA
              simp only [aV.j4] at H
              by_cases c27:afQ=true
              ·subst c27
               rw [if_pos rfl] at H;try dsimp only at H
               by_cases c28:(IntKind.u64.wrap (ad3+((dF) / 4294967296)))≥4294967296
               ·rw [if_pos c28] at H
                have an5:=decide_eq_true c28
                clear c28
                by_cases c29:0≤ji8
                ·rw [if_pos c29] at H
                 have an8:=eq_true c29
                 have aCE:=decide_eq_true c29
                 clear c29
                 obtain ⟨arz,ahX⟩:∃ j_:Int,(shr .u64 (IntKind.u64.wrap ((IntKind.u64.wrap ((IntKind.u64.wrap ((IntKind.u64.wrap ((IntKind.u64.wrap ((IntKind.u64.wrap ((Go.bits .or .u64 (jA) (qc))*4294967296))+((nS) / 4294967296))) - (IntKind.u64.wrap (pR*dF))))*4294967296))+(Go.bits .and .u64 (nS) 4294967295))) - (IntKind.u64.wrap ((IntKind.u64.wrap (vS - 1))*dF)))) ji8)=j_:=⟨_,rfl⟩
                 replace H:(some (IntKind.u64.wrap ((IntKind.u64.wrap (pR*4294967296))+(IntKind.u64.wrap (vS - 1))),arz))=some (r1,r2):=by first|(rw [ahX] at H;exact H)|(simp only [ahX] at H ⊢;exact H)
                 have aAY:((IntKind.u64.wrap ((IntKind.u64.wrap ((IntKind.u64.wrap ((IntKind.u64.wrap ((IntKind.u64.wrap ((IntKind.u64.wrap ((Go.bits .or .u64 (jA) (qc))*4294967296))+((nS) / 4294967296))) - (IntKind.u64.wrap (pR*dF))))*4294967296))+(Go.bits .and .u64 (nS) 4294967295))) - (IntKind.u64.wrap ((IntKind.u64.wrap (vS - 1))*dF)))) / 2 ^ min ji8.toNat 64)=arz:=ahX
                 have aAZ:ji8≤64→((IntKind.u64.wrap ((IntKind.u64.wrap ((IntKind.u64.wrap ((IntKind.u64.wrap ((IntKind.u64.wrap ((IntKind.u64.wrap ((Go.bits .or .u64 (jA) (qc))*4294967296))+((nS) / 4294967296))) - (IntKind.u64.wrap (pR*dF))))*4294967296))+(Go.bits .and .u64 (nS) 4294967295))) - (IntKind.u64.wrap ((IntKind.u64.wrap (vS - 1))*dF)))) / 2 ^ ji8.toNat)=arz:=qp ahX
                 simp only [Option.some.injEq,Prod.mk.injEq] at H
                 obtain ⟨rfl,rfl⟩:=H
                 go_wp2
                 repeat (go_quiet (fail);try go_wp2)
                 go_ret2
                 exact ⟨by first|rfl|(simp;done)|(simp only [← qN,← jU,← pO,← ahV,← aah,← aai,← ahX] <;> (first|rfl|simp))|(simp [*];done),zW⟩
                ·rw [if_neg c29] at H
                 exact absurd H (by simp)
               ·rw [if_neg c28] at H
                have an5:=decide_eq_false c28
                clear c28
                have H':=aj.mk H
                clear H
                go_wp2
                repeat (go_quiet (fail);try go_wp2)
                go_roundg azd
                case measure=>have:=aol.out;have:=HK2.out;have:=avt.out;omega
                case rel=>exact ⟨(IntKind.u64.wrap (ad3+((dF) / 4294967296))),(IntKind.u64.wrap (vS - 1)),(by first|rfl|(simp;done)|(simp only [← jU] <;> (first|rfl|simp))|(simp [*];done)),zT,H',⟨by have:=aol.out;have:=HK2.out;have:=avt.out;omega⟩,zW⟩
              ·replace c27:=Bool.eq_false_iff.mpr c27
               subst c27
               rw [if_neg (show ¬ (false=true) by decide)] at H;try dsimp only at H
               by_cases c31:0≤ji8
               ·rw [if_pos c31] at H
                have aCF:=eq_true c31
                have aCG:=decide_eq_true c31
                clear c31
                obtain ⟨arA,ahY⟩:∃ j_:Int,(shr .u64 (IntKind.u64.wrap ((IntKind.u64.wrap ((IntKind.u64.wrap ((IntKind.u64.wrap ((IntKind.u64.wrap ((IntKind.u64.wrap ((Go.bits .or .u64 (jA) (qc))*4294967296))+((nS) / 4294967296))) - (IntKind.u64.wrap (pR*dF))))*4294967296))+(Go.bits .and .u64 (nS) 4294967295))) - (IntKind.u64.wrap (vS*dF)))) ji8)=j_:=⟨_,rfl⟩
                replace H:(some (IntKind.u64.wrap ((IntKind.u64.wrap (pR*4294967296))+vS),arA))=some (r1,r2):=by first|(rw [ahY] at H;exact H)|(simp only [ahY] at H ⊢;exact H)
                have aA0:((IntKind.u64.wrap ((IntKind.u64.wrap ((IntKind.u64.wrap ((IntKind.u64.wrap ((IntKind.u64.wrap ((IntKind.u64.wrap ((Go.bits .or .u64 (jA) (qc))*4294967296))+((nS) / 4294967296))) - (IntKind.u64.wrap (pR*dF))))*4294967296))+(Go.bits .and .u64 (nS) 4294967295))) - (IntKind.u64.wrap (vS*dF)))) / 2 ^ min ji8.toNat 64)=arA:=ahY
                have aA1:ji8≤64→((IntKind.u64.wrap ((IntKind.u64.wrap ((IntKind.u64.wrap ((IntKind.u64.wrap ((IntKind.u64.wrap ((IntKind.u64.wrap ((Go.bits .or .u64 (jA) (qc))*4294967296))+((nS) / 4294967296))) - (IntKind.u64.wrap (pR*dF))))*4294967296))+(Go.bits .and .u64 (nS) 4294967295))) - (IntKind.u64.wrap (vS*dF)))) / 2 ^ ji8.toNat)=arA:=qp ahY
                simp only [Option.some.injEq,Prod.mk.injEq] at H
                obtain ⟨rfl,rfl⟩:=H
                go_wp2
                repeat (go_quiet (fail);try go_wp2)
                go_ret2
                exact ⟨by first|rfl|(simp;done)|(simp only [← qN,← jU,← pO,← ahV,← aah,← aai,← ahY] <;> (first|rfl|simp))|(simp [*];done),zW⟩
               ·rw [if_neg c31] at H
                exact absurd H (by simp)
     ·rw [if_neg c14] at H
      exact absurd H (by simp)
    ·rw [if_neg c9] at H
     exact absurd H (by simp)
end Go.Proofs.YtpondkggmcmpfaaGreatDoor.QA
namespace Go.Proofs.YtpondkggmcmpfaaGreatDoor.QA
open Go.Proofs.YtpondkggmcmpfaaGreatDoor.T
open Go.RowKit Go.Proofs.YtpondkggmcmpfaaGreatDoorW.PrintWords Go.Proofs.YtpondkggmcmpfaaGreatDoorW.PrintLast Go.Proofs.YtpondkggmcmpfaaGreatDoorW.PrintMore
attribute [local go_sem] dV dP dQ fC fD
set_option linter.unusedVariables false
set_option linter.unusedSimpArgs false
def bf.j0:Nat→Bool→Int→Int→Bool→Option (Int)
 | 0,_,_,_,_=>none
 | k+1,x9,x11,x14,x60=>if x60=true then ((dh.f k (qy x11 1 0) (qw x11 1 0) x9).bind fun alS=>(some alS)) else ((dh.f k (qy x11 x14 0) (qw x11 x14 0) x9).bind fun t138=>(some t138))
def bf.f (k:Nat) (a0 a1 a2:Int):Option (Int):=if a2=0 then (some 0) else ((kL.f a0 a1).bind fun yH=>((nZ.f a2).bind fun xZ=>(if yH.1≥xZ then ((dh.f k 1 0 (yH.2.2 != (decide (a2 < 0)))).bind fun arB=>(some arB)) else ((aV.f k yH.1 yH.2.1 xZ).bind fun aaj=>(if (yH.2.2 != (decide (a2 < 0)))=true then (if aaj.2 > (IntKind.u64.wrap (xZ - aaj.2)) then (bf.j0 k (yH.2.2 != (decide (a2 < 0))) aaj.1 0 true) else (if ((yH.2.2 != (decide (a2 < 0)))=true) then (bf.j0 k (yH.2.2 != (decide (a2 < 0))) aaj.1 0 false) else (bf.j0 k (yH.2.2 != (decide (a2 < 0))) aaj.1 0 (decide (aaj.2≥(IntKind.u64.wrap (xZ - aaj.2))))))) else (if ((yH.2.2 != (decide (a2 < 0)))=true) then (bf.j0 k (yH.2.2 != (decide (a2 < 0))) aaj.1 0 false) else (bf.j0 k (yH.2.2 != (decide (a2 < 0))) aaj.1 0 (decide (aaj.2≥(IntKind.u64.wrap (xZ - aaj.2)))))))))))
theorem bf.jd:∀ k,(∀ y0 y1 y2 y3,LeO (bf.j0 k y0 y1 y2 y3) (bf.j0 (k+1) y0 y1 y2 y3))
 | 0=>fun _ _ _ _ r h=>by simp [bf.j0] at h
 | k+1=>by
  have ih0:=bf.jd k
  ·intro y0 y1 y2 y3
   unfold bf.j0
   repeat' (with_reducible first|exact ih0 _ _ _ _|exact aV.mono _ _ _ _|exact dh.mono _ _ _ _|exact zM|refine LeO.ite ?_ ?_|refine LeO.bind ?_ (fun _ => ?_))
theorem bf.mono:∀ a0 a1 a2 k,LeO (bf.f k a0 a1 a2) (bf.f (k+1) a0 a1 a2):=by
 intro a0 a1 a2 k
 have ih0:=bf.jd k
 unfold bf.f
 repeat' (with_reducible first|exact ih0 _ _ _ _|exact aV.mono _ _ _ _|exact dh.mono _ _ _ _|exact zM|refine LeO.ite ?_ ?_|refine LeO.bind ?_ (fun _ => ?_))
set_option maxHeartbeats 8000000 in
set_option maxRecDepth 100000 in
theorem bf.calls (k:Nat) (a0 a1 a2 r:Int) (w:World) (h:bf.f k a0 a1 a2=some r) :
  Calls Tryz.prog 130 #[.int .i64 a0,.int .i64 a1,.int .i64 a2] w fun e w'=>e = .returned (.int .i64 r)∧cO w w':=by
 have H:=h
 clear h
 unfold bf.f at H
 by_cases c4:a2=0
 ·rw [if_pos c4] at H
  have fB:(a2 == 0)=true:=beq_iff_eq.mpr c4
  have aaI:(a2 != 0)=false:=bne_eq_false_iff_eq.mpr c4
  clear c4
  obtain rfl:=Option.some.inj H
  go_enter Tryz.func130,Tryz.ntmps130
  go_wp2
  go_ret
  exact ⟨zT,zW⟩
 ·rw [if_neg c4] at H
  have fB:(a2 == 0)=false:=beq_eq_false_iff_ne.mpr c4
  have aaI:(a2 != 0)=true:=bne_iff_ne.mpr c4
  replace H:=zO H
  obtain ⟨⟨t130,t131,mJ⟩,A5,H⟩:=H
  try dsimp only at H
  replace H:=zO H
  obtain ⟨xZ,A6,H⟩:=H
  try dsimp only at H
  by_cases c7:t130≥xZ
  ·rw [if_pos c7] at H
   have jf:=decide_eq_true c7
   clear c7
   replace H:=zO H
   obtain ⟨arB,A8,H⟩:=H
   try dsimp only at H
   obtain rfl:=Option.some.inj H
   go_enter Tryz.func130,Tryz.ntmps130
   go_wp2_with (first|((with_reducible refine ay (f:=154) rfl ?_);refine aH (some 21) rfl rfl Tryz.func154 (by kernel_rfl) rfl #[.int .i64 a0,.int .i64 a1] rfl zL ?_;(with_reducible refine (kL.calls a0 a1 t130 t131 mJ _ A5.out).mono ?_);rintro e w' ⟨rfl,⟨nd,rfl⟩⟩;refine ⟨_,rfl,?_⟩)|((with_reducible refine ay (f:=155) rfl ?_);refine aH (some 26) rfl rfl Tryz.func155 (by kernel_rfl) rfl #[.int .i64 a2] rfl zL ?_;(with_reducible refine (nZ.calls a2 xZ _ A6.out).mono ?_);rintro e w' ⟨rfl,⟨nd,rfl⟩⟩;refine ⟨_,rfl,?_⟩)|((with_reducible refine ay (f:=156) rfl ?_);refine aH (some 35) rfl rfl Tryz.func156 (by kernel_rfl) rfl #[.int .u64 1,.int .u64 0,.bool (mJ != (decide (a2 < 0)))] rfl zL ?_;(with_reducible refine (dh.calls k 1 0 (mJ != (decide (a2 < 0))) arB _ A8.out).mono ?_);rintro e w' ⟨rfl,⟨nd,rfl⟩⟩;refine ⟨_,rfl,?_⟩))
   go_ret
   exact ⟨zT,zW⟩
  ·rw [if_neg c7] at H
   have jf:=decide_eq_false c7
   clear c7
   replace H:=zO H
   obtain ⟨⟨uZ,ai3⟩,A9,H⟩:=H
   try dsimp only at H
   rcases Bool.eq_false_or_eq_true (mJ != (decide (a2 < 0))) with hsv|hsv
   ·have sZ:(mJ != (decide (a2 < 0)))=true:=hsv
    have anX:(mJ == (decide (a2 < 0)))=false:=by simpa using hsv
    have agV:=aj.mk H
    clear H
    go_enter Tryz.func130,Tryz.ntmps130
    go_upto_region 11 with (first|((with_reducible refine ay (f:=154) rfl ?_);refine aH (some 21) rfl rfl Tryz.func154 (by kernel_rfl) rfl #[.int .i64 a0,.int .i64 a1] rfl zL ?_;(with_reducible refine (kL.calls a0 a1 t130 t131 mJ _ A5.out).mono ?_);rintro e w' ⟨rfl,⟨nd,rfl⟩⟩;refine ⟨_,rfl,?_⟩)|((with_reducible refine ay (f:=155) rfl ?_);refine aH (some 26) rfl rfl Tryz.func155 (by kernel_rfl) rfl #[.int .i64 a2] rfl zL ?_;(with_reducible refine (nZ.calls a2 xZ _ A6.out).mono ?_);rintro e w' ⟨rfl,⟨nd,rfl⟩⟩;refine ⟨_,rfl,?_⟩)|((with_reducible refine ay (f:=157) rfl ?_);refine aH (some 40) rfl rfl Tryz.func157 (by kernel_rfl) rfl #[.int .u64 t130,.int .u64 t131,.int .u64 xZ] rfl zL ?_;(with_reducible refine (aV.calls k t130 t131 xZ uZ ai3 _ A9.out).mono ?_);rintro e w' ⟨rfl,⟨nd,rfl⟩⟩;refine ⟨_,rfl,?_⟩))
    (try simp only [Act.put,List.setIfInBounds_toArray,List.set_cons_zero,List.set_cons_succ])
    go_cut [60] (fun v60 wc=>∃ (kq:Nat) (abD:Bool),v60 = .bool abD∧aj (bf.j0 kq (mJ != (decide (a2 < 0))) uZ 0 abD=some r)∧aj (kq≤k)∧cO w wc)
    case first =>
     have H:=agV.out
     clear agV
     by_cases c11:(mJ != (decide (a2 < 0)))=true
     ·rw [if_pos c11] at H
      have iQ:(mJ != (decide (a2 < 0)))=true:=c11
      (try (have xH:decide (mJ=(decide (a2 < 0)))=false:=by simpa using c11))
      (try (have anY:(mJ == (decide (a2 < 0)))=false:=by simpa using c11))
      (try (have awP:¬ (mJ=(decide (a2 < 0))):=by simpa using c11))
      clear c11
      (first|rw [iQ]|(simp only [bY,dw];rw [iQ])|skip)
      by_cases c12:ai3 > (IntKind.u64.wrap (xZ - ai3))
      ·rw [if_pos c12] at H
       have aaU:=decide_eq_true c12
       clear c12
       have H':=aj.mk H
       clear H
       go_wp2
       go_meet
       case rel=>exact ⟨_,(true),zT,H',⟨by first|omega|exact Nat.le_refl _⟩,zW⟩
      ·rw [if_neg c12] at H
       have aaU:=decide_eq_false c12
       clear c12
       by_cases c13:((mJ != (decide (a2 < 0)))=true)
       ·rw [if_pos c13] at H
        have aaT:(mJ != (decide (a2 < 0)))=true:=c13
        (try (have ahZ:decide (mJ=(decide (a2 < 0)))=false:=by simpa using c13))
        (try (have aCH:(mJ == (decide (a2 < 0)))=false:=by simpa using c13))
        (try (have aCI:¬ (mJ=(decide (a2 < 0))):=by simpa using c13))
        clear c13
        have H':=aj.mk H
        clear H
        go_wp2
        go_meet
        case rel=>exact ⟨_,(false),zT,H',⟨by first|omega|exact Nat.le_refl _⟩,zW⟩
       ·rw [if_neg c13] at H
        have aaT:(mJ != (decide (a2 < 0)))=false:=by simpa using c13
        exact absurd (sZ.symm.trans aaT) (by decide)
     ·rw [if_neg c11] at H
      have iQ:(mJ != (decide (a2 < 0)))=false:=by simpa using c11
      exact absurd (sZ.symm.trans iQ) (by decide)
    case rest =>
     clear agV
     obtain ⟨kq,abD,rfl,HA,HJ9,⟨mc9,rfl⟩⟩:=hcut
     cases kq with
     | zero=>exact absurd HA.out (by simp [bf.j0])
     | succ kj9 =>
      have H:=HA.out
      clear HA
      simp only [bf.j0] at H
      by_cases c15:abD=true
      ·subst c15
       rw [if_pos rfl] at H;try dsimp only at H
       replace H:=zO H
       obtain ⟨alS,A16,H⟩:=H
       try dsimp only at H
       obtain rfl:=Option.some.inj H
       go_wp2_with (first|((with_reducible refine ay (f:=156) rfl ?_);refine aH (some 70) rfl rfl Tryz.func156 (by kernel_rfl) rfl #[.int .u64 (qy uZ 1 0),.int .u64 (qw uZ 1 0),.bool true] rfl zL ?_;(with_reducible refine (dh.calls kj9 (qy uZ 1 0) (qw uZ 1 0) true alS _ (by have h:=A16.out;rw [sZ] at h;exact h)).mono ?_);rintro e w' ⟨rfl,⟨nd,rfl⟩⟩;refine ⟨_,rfl,?_⟩))
       go_ret
       exact ⟨zT,zW⟩
      ·replace c15:=Bool.eq_false_iff.mpr c15
       subst c15
       rw [if_neg (show ¬ (false=true) by decide)] at H;try dsimp only at H
       replace H:=zO H
       obtain ⟨t138,A17,H⟩:=H
       try dsimp only at H
       obtain rfl:=Option.some.inj H
       go_wp2_with (first|((with_reducible refine ay (f:=156) rfl ?_);refine aH (some 70) rfl rfl Tryz.func156 (by kernel_rfl) rfl #[.int .u64 (qy uZ 0 0),.int .u64 (qw uZ 0 0),.bool true] rfl zL ?_;(with_reducible refine (dh.calls kj9 (qy uZ 0 0) (qw uZ 0 0) true t138 _ (by have h:=A17.out;rw [sZ] at h;exact h)).mono ?_);rintro e w' ⟨rfl,⟨nd,rfl⟩⟩;refine ⟨_,rfl,?_⟩))
       go_ret
       exact ⟨zT,zW⟩
   ·have sZ:(mJ != (decide (a2 < 0)))=false:=hsv
    have anX:(mJ == (decide (a2 < 0)))=true:=by simpa using hsv
    have agV:=aj.mk H
    clear H
    go_enter Tryz.func130,Tryz.ntmps130
    go_upto_region 11 with (first|((with_reducible refine ay (f:=154) rfl ?_);refine aH (some 21) rfl rfl Tryz.func154 (by kernel_rfl) rfl #[.int .i64 a0,.int .i64 a1] rfl zL ?_;(with_reducible refine (kL.calls a0 a1 t130 t131 mJ _ A5.out).mono ?_);rintro e w' ⟨rfl,⟨nd,rfl⟩⟩;refine ⟨_,rfl,?_⟩)|((with_reducible refine ay (f:=155) rfl ?_);refine aH (some 26) rfl rfl Tryz.func155 (by kernel_rfl) rfl #[.int .i64 a2] rfl zL ?_;(with_reducible refine (nZ.calls a2 xZ _ A6.out).mono ?_);rintro e w' ⟨rfl,⟨nd,rfl⟩⟩;refine ⟨_,rfl,?_⟩)|((with_reducible refine ay (f:=157) rfl ?_);refine aH (some 40) rfl rfl Tryz.func157 (by kernel_rfl) rfl #[.int .u64 t130,.int .u64 t131,.int .u64 xZ] rfl zL ?_;(with_reducible refine (aV.calls k t130 t131 xZ uZ ai3 _ A9.out).mono ?_);rintro e w' ⟨rfl,⟨nd,rfl⟩⟩;refine ⟨_,rfl,?_⟩))
    (try simp only [Act.put,List.setIfInBounds_toArray,List.set_cons_zero,List.set_cons_succ])
    go_cut [60] (fun v60 wc=>∃ (kq:Nat) (abD:Bool),v60 = .bool abD∧aj (bf.j0 kq (mJ != (decide (a2 < 0))) uZ 0 abD=some r)∧aj (kq≤k)∧cO w wc)
    case first =>
     have H:=agV.out
     clear agV
     by_cases c11:(mJ != (decide (a2 < 0)))=true
     ·rw [if_pos c11] at H
      have iQ:(mJ != (decide (a2 < 0)))=true:=c11
      exact absurd (sZ.symm.trans iQ) (by decide)
     ·rw [if_neg c11] at H
      have iQ:(mJ != (decide (a2 < 0)))=false:=by simpa using c11
      (try (have xH:decide (mJ=(decide (a2 < 0)))=true:=by simpa using c11))
      (try (have anY:(mJ == (decide (a2 < 0)))=true:=by simpa using c11))
      clear c11
      (first|rw [iQ]|(simp only [bY,dw];rw [iQ])|skip)
      by_cases c14:((mJ != (decide (a2 < 0)))=true)
      ·rw [if_pos c14] at H
       have acG:(mJ != (decide (a2 < 0)))=true:=c14
       exact absurd (sZ.symm.trans acG) (by decide)
      ·rw [if_neg c14] at H
       have acG:(mJ != (decide (a2 < 0)))=false:=by simpa using c14
       (try (have aod:decide (mJ=(decide (a2 < 0)))=true:=by simpa using c14))
       (try (have aCJ:(mJ == (decide (a2 < 0)))=true:=by simpa using c14))
       clear c14
       have H':=aj.mk H
       clear H
       go_wp2
       go_meet
       case rel=>exact ⟨_,(decide (ai3≥(IntKind.u64.wrap (xZ - ai3)))),zT,H',⟨by first|omega|exact Nat.le_refl _⟩,zW⟩
    case rest =>
     clear agV
     obtain ⟨kq,abD,rfl,HA,HJ9,⟨mc9,rfl⟩⟩:=hcut
     cases kq with
     | zero=>exact absurd HA.out (by simp [bf.j0])
     | succ kj9 =>
      have H:=HA.out
      clear HA
      simp only [bf.j0] at H
      by_cases c15:abD=true
      ·subst c15
       rw [if_pos rfl] at H;try dsimp only at H
       replace H:=zO H
       obtain ⟨alS,A16,H⟩:=H
       try dsimp only at H
       obtain rfl:=Option.some.inj H
       go_wp2_with (first|((with_reducible refine ay (f:=156) rfl ?_);refine aH (some 70) rfl rfl Tryz.func156 (by kernel_rfl) rfl #[.int .u64 (qy uZ 1 0),.int .u64 (qw uZ 1 0),.bool false] rfl zL ?_;(with_reducible refine (dh.calls kj9 (qy uZ 1 0) (qw uZ 1 0) false alS _ (by have h:=A16.out;rw [sZ] at h;exact h)).mono ?_);rintro e w' ⟨rfl,⟨nd,rfl⟩⟩;refine ⟨_,rfl,?_⟩))
       go_ret
       exact ⟨zT,zW⟩
      ·replace c15:=Bool.eq_false_iff.mpr c15
       subst c15
       rw [if_neg (show ¬ (false=true) by decide)] at H;try dsimp only at H
       replace H:=zO H
       obtain ⟨t138,A17,H⟩:=H
       try dsimp only at H
       obtain rfl:=Option.some.inj H
       go_wp2_with (first|((with_reducible refine ay (f:=156) rfl ?_);refine aH (some 70) rfl rfl Tryz.func156 (by kernel_rfl) rfl #[.int .u64 (qy uZ 0 0),.int .u64 (qw uZ 0 0),.bool false] rfl zL ?_;(with_reducible refine (dh.calls kj9 (qy uZ 0 0) (qw uZ 0 0) false t138 _ (by have h:=A17.out;rw [sZ] at h;exact h)).mono ?_);rintro e w' ⟨rfl,⟨nd,rfl⟩⟩;refine ⟨_,rfl,?_⟩))
       go_ret
       exact ⟨zT,zW⟩
def fP.j0:Nat→Int→Int→Bool→Option (Int)
 | 0,_,_,_=>none
 | k+1,x0,x1,x23=>if x23=true then (some 0) else (if (mx x0 (wrap64 (-x0)))≥x1 then ((bf.f k (wrap64 ((wrap64 ((wrap64 ((wrap64 ((wrap64 ((wrap64 (-(mx x0 (wrap64 (-x0)))))*(mx x0 (wrap64 (-x0)))))*(mx x0 (wrap64 (-x0)))))+(wrap64 ((wrap64 ((wrap64 (5*(mx x0 (wrap64 (-x0)))))*(mx x0 (wrap64 (-x0)))))*x1)))) - (wrap64 ((wrap64 ((wrap64 (8*(mx x0 (wrap64 (-x0)))))*x1))*x1))))+(wrap64 ((wrap64 ((wrap64 (4*x1))*x1))*x1)))) 1073741824 (wrap64 ((wrap64 ((wrap64 (2*x1))*x1))*x1))).bind fun t139=>(some t139)) else ((bf.f k (wrap64 ((wrap64 ((wrap64 ((wrap64 ((wrap64 (3*(mx x0 (wrap64 (-x0)))))*(mx x0 (wrap64 (-x0)))))*(mx x0 (wrap64 (-x0))))) - (wrap64 ((wrap64 ((wrap64 (5*(mx x0 (wrap64 (-x0)))))*(mx x0 (wrap64 (-x0)))))*x1))))+(wrap64 ((wrap64 ((wrap64 (2*x1))*x1))*x1)))) 1073741824 (wrap64 ((wrap64 ((wrap64 (2*x1))*x1))*x1))).bind fun alT=>(some alT)))
def fP.f (k:Nat) (a0 a1:Int):Option (Int):=if a1 < 1 then (fP.j0 k a0 a1 true) else (if a1 > 262144 then (fP.j0 k a0 a1 true) else (if a0≥(wrap64 (2*a1)) then (fP.j0 k a0 a1 true) else (fP.j0 k a0 a1 (decide (a0≤(wrap64 ((-2)*a1)))))))
theorem fP.jd:∀ k,(∀ y0 y1 y2,LeO (fP.j0 k y0 y1 y2) (fP.j0 (k+1) y0 y1 y2))
 | 0=>fun _ _ _ r h=>by simp [fP.j0] at h
 | k+1=>by
  have ih0:=fP.jd k
  ·intro y0 y1 y2
   unfold fP.j0
   repeat' (with_reducible first|exact ih0 _ _ _|exact bf.mono _ _ _ _|exact zM|refine LeO.ite ?_ ?_|refine LeO.bind ?_ (fun _ => ?_))
theorem fP.mono:∀ a0 a1 k,LeO (fP.f k a0 a1) (fP.f (k+1) a0 a1):=by
 intro a0 a1 k
 have ih0:=fP.jd k
 unfold fP.f
 repeat' (with_reducible first|exact ih0 _ _ _|exact bf.mono _ _ _ _|exact zM|refine LeO.ite ?_ ?_|refine LeO.bind ?_ (fun _ => ?_))
set_option maxHeartbeats 8000000 in
set_option maxRecDepth 100000 in
theorem fP.calls (k:Nat) (a0 a1 r:Int) (w:World) (h:fP.f k a0 a1=some r) :
  Calls Tryz.prog 108 #[.int .i64 a0,.int .i64 a1] w fun e w'=>e = .returned (.int .i64 r)∧Below w.heap.size w w':=by
 have HB:=aj.mk (Below.refl w.heap.size w)
 have H:=h
 clear h
 unfold fP.f at H
 have HC3:=aj.mk H
 clear H
 go_enter Tryz.func108,Tryz.ntmps108
 go_upto_region 1 with (fail)
 go_cut [23] (fun v23 wc=>∃ (kq:Nat) (ako:Bool),v23 = .bool ako∧aj (fP.j0 kq a0 a1 ako=some r)∧aj (kq≤k)∧aj (Below w.heap.size w wc))
 case first =>
  have H:=HC3.out
  clear HC3
  by_cases c4:a1 < 1
  ·rw [if_pos c4] at H
   have fB:=decide_eq_true c4
   clear c4
   (first|rw [fB]|(simp only [bY,dw];rw [fB])|skip)
   have H':=aj.mk H
   clear H
   go_wp2
   go_meet
   case rel=>exact ⟨_,(true),zT,H',⟨by first|omega|exact Nat.le_refl _⟩,⟨zB⟩⟩
  ·rw [if_neg c4] at H
   have fB:=decide_eq_false c4
   clear c4
   (first|rw [fB]|(simp only [bY,dw];rw [fB])|skip)
   by_cases c5:a1 > 262144
   ·rw [if_pos c5] at H
    have gQ:=decide_eq_true c5
    clear c5
    have H':=aj.mk H
    clear H
    go_wp2
    go_meet
    case rel=>exact ⟨_,(true),zT,H',⟨by first|omega|exact Nat.le_refl _⟩,⟨zB⟩⟩
   ·rw [if_neg c5] at H
    have gQ:=decide_eq_false c5
    clear c5
    by_cases c6:a0≥(wrap64 (2*a1))
    ·rw [if_pos c6] at H
     have iw:=decide_eq_true c6
     clear c6
     have H':=aj.mk H
     clear H
     go_wp2
     go_meet
     case rel=>exact ⟨_,(true),zT,H',⟨by first|omega|exact Nat.le_refl _⟩,⟨zB⟩⟩
    ·rw [if_neg c6] at H
     have iw:=decide_eq_false c6
     clear c6
     have H':=aj.mk H
     clear H
     go_wp2
     go_meet
     case rel=>exact ⟨_,(decide (a0≤(wrap64 ((-2)*a1)))),zT,H',⟨by first|omega|exact Nat.le_refl _⟩,⟨zB⟩⟩
 case rest =>
  clear HC3
  obtain ⟨kq,ako,rfl,HA,HJ2,HB⟩:=hcut
  cases kq with
  | zero=>exact absurd HA.out (by simp [fP.j0])
  | succ kj2 =>
   have H:=HA.out
   clear HA
   simp only [fP.j0] at H
   by_cases c7:ako=true
   ·subst c7
    rw [if_pos rfl] at H;try dsimp only at H
    obtain rfl:=Option.some.inj H
    go_wp2
    go_ret
    exact ⟨zS,zB⟩
   ·replace c7:=Bool.eq_false_iff.mpr c7
    subst c7
    rw [if_neg (show ¬ (false=true) by decide)] at H;try dsimp only at H
    obtain ⟨ji8,qN⟩:∃ j_:Int,(mx a0 (wrap64 (-a0)))=j_:=⟨_,rfl⟩
    replace H:(if (ji8)≥a1 then ((bf.f kj2 (wrap64 ((wrap64 ((wrap64 ((wrap64 ((wrap64 ((wrap64 (-(ji8)))*(ji8)))*(ji8)))+(wrap64 ((wrap64 ((wrap64 (5*(ji8)))*(ji8)))*a1)))) - (wrap64 ((wrap64 ((wrap64 (8*(ji8)))*a1))*a1))))+(wrap64 ((wrap64 ((wrap64 (4*a1))*a1))*a1)))) 1073741824 (wrap64 ((wrap64 ((wrap64 (2*a1))*a1))*a1))).bind fun t139=>(some t139)) else ((bf.f kj2 (wrap64 ((wrap64 ((wrap64 ((wrap64 ((wrap64 (3*(ji8)))*(ji8)))*(ji8))) - (wrap64 ((wrap64 ((wrap64 (5*(ji8)))*(ji8)))*a1))))+(wrap64 ((wrap64 ((wrap64 (2*a1))*a1))*a1)))) 1073741824 (wrap64 ((wrap64 ((wrap64 (2*a1))*a1))*a1))).bind fun alT=>(some alT)))=some r:=by first|(rw [qN] at H;exact H)|(simp only [qN] at H ⊢;exact H)
    have asX:(if a0 < (wrap64 (-a0)) then (wrap64 (-a0)) else a0)=ji8:=qN
    by_cases c9:(ji8)≥a1
    ·rw [if_pos c9] at H
     have qA:=decide_eq_true c9
     clear c9
     replace H:=zO H
     obtain ⟨t139,A10,H⟩:=H
     try dsimp only at H
     obtain rfl:=Option.some.inj H
     go_wp2_with (first|((with_reducible refine ay (f:=130) rfl ?_);refine aH (some 85) rfl rfl Tryz.func130 (by kernel_rfl) rfl #[.int .i64 (wrap64 ((wrap64 ((wrap64 ((wrap64 ((wrap64 ((wrap64 (-(ji8)))*(ji8)))*(ji8)))+(wrap64 ((wrap64 ((wrap64 (5*(ji8)))*(ji8)))*a1)))) - (wrap64 ((wrap64 ((wrap64 (8*(ji8)))*a1))*a1))))+(wrap64 ((wrap64 ((wrap64 (4*a1))*a1))*a1)))),.int .i64 1073741824,.int .i64 (wrap64 ((wrap64 ((wrap64 (2*a1))*a1))*a1))] rfl (by (try simp only [List.map_toArray,List.map_cons,List.map_nil]);first|done|(simp only [qN];rfl)|(simp only [Int.tdiv_eq_ediv_of_nonneg hji8l];rfl)|rfl|(simp only [List.length_drop,List.length_take];rfl)) ?_;(with_reducible refine (bf.calls kj2 (wrap64 ((wrap64 ((wrap64 ((wrap64 ((wrap64 ((wrap64 (-(ji8)))*(ji8)))*(ji8)))+(wrap64 ((wrap64 ((wrap64 (5*(ji8)))*(ji8)))*a1)))) - (wrap64 ((wrap64 ((wrap64 (8*(ji8)))*a1))*a1))))+(wrap64 ((wrap64 ((wrap64 (4*a1))*a1))*a1)))) 1073741824 (wrap64 ((wrap64 ((wrap64 (2*a1))*a1))*a1)) t139 _ A10.out).mono ?_);rintro e w' ⟨rfl,⟨nd,rfl⟩⟩;refine ⟨_,rfl,?_⟩))
     go_ret
     exact ⟨by first|rfl|(simp [bH,bI] <;> rfl)|(simp only [← qN];first|rfl|(simp [bH,bI] <;> rfl))|(simp [*,bH,bI] <;> rfl),zB⟩
    ·rw [if_neg c9] at H
     have qA:=decide_eq_false c9
     clear c9
     replace H:=zO H
     obtain ⟨alT,A11,H⟩:=H
     try dsimp only at H
     obtain rfl:=Option.some.inj H
     go_wp2_with (first|((with_reducible refine ay (f:=130) rfl ?_);refine aH (some 85) rfl rfl Tryz.func130 (by kernel_rfl) rfl #[.int .i64 (wrap64 ((wrap64 ((wrap64 ((wrap64 ((wrap64 (3*(ji8)))*(ji8)))*(ji8))) - (wrap64 ((wrap64 ((wrap64 (5*(ji8)))*(ji8)))*a1))))+(wrap64 ((wrap64 ((wrap64 (2*a1))*a1))*a1)))),.int .i64 1073741824,.int .i64 (wrap64 ((wrap64 ((wrap64 (2*a1))*a1))*a1))] rfl (by (try simp only [List.map_toArray,List.map_cons,List.map_nil]);first|done|(simp only [qN];rfl)|(simp only [Int.tdiv_eq_ediv_of_nonneg hji8l];rfl)|rfl|(simp only [List.length_drop,List.length_take];rfl)) ?_;(with_reducible refine (bf.calls kj2 (wrap64 ((wrap64 ((wrap64 ((wrap64 ((wrap64 (3*(ji8)))*(ji8)))*(ji8))) - (wrap64 ((wrap64 ((wrap64 (5*(ji8)))*(ji8)))*a1))))+(wrap64 ((wrap64 ((wrap64 (2*a1))*a1))*a1)))) 1073741824 (wrap64 ((wrap64 ((wrap64 (2*a1))*a1))*a1)) alT _ A11.out).mono ?_);rintro e w' ⟨rfl,⟨nd,rfl⟩⟩;refine ⟨_,rfl,?_⟩))
     go_ret
     exact ⟨by first|rfl|(simp [bH,bI] <;> rfl)|(simp only [← qN];first|rfl|(simp [bH,bI] <;> rfl))|(simp [*,bH,bI] <;> rfl),zB⟩
end Go.Proofs.YtpondkggmcmpfaaGreatDoor.QA
namespace Go.Proofs.YtpondkggmcmpfaaGreatDoor.QA
open Go.Proofs.YtpondkggmcmpfaaGreatDoor.T
open Go.RowKit Go.Proofs.YtpondkggmcmpfaaGreatDoorW.PrintWords Go.Proofs.YtpondkggmcmpfaaGreatDoorW.PrintLast Go.Proofs.YtpondkggmcmpfaaGreatDoorW.PrintMore
attribute [local go_sem] dV dP dQ fC fD
set_option linter.unusedVariables false
set_option linter.unusedSimpArgs false
def lg.f (a0 a1:Int):Option (Int):=if a1≤0 then (some a0) else (if a1≥64 then (some 0) else (if 0≤a1 then (if 0≤(wrap64 (a1 - 1)) then (some (wrap64 ((shr .i64 a0 a1)+(Go.bits .and .i64 (shr .i64 a0 (wrap64 (a1 - 1))) 1)))) else (none)) else (none)))
set_option maxHeartbeats 8000000 in
set_option maxRecDepth 100000 in
theorem lg.calls (a0 a1 r:Int) (w:World) (h:lg.f a0 a1=some r) :
  Calls Tryz.prog 100 #[.int .i64 a0,.int .i64 a1] w fun e w'=>e = .returned (.int .i64 r)∧cO w w':=by
 have H:=h
 clear h
 unfold lg.f at H
 by_cases c3:a1≤0
 ·rw [if_pos c3] at H
  have fQ:=decide_eq_true c3
  clear c3
  obtain rfl:=Option.some.inj H
  go_enter Tryz.func100,Tryz.ntmps100
  go_wp2
  repeat (go_quiet (fail);try go_wp2)
  go_ret
  exact ⟨zT,zW⟩
 ·rw [if_neg c3] at H
  have fQ:=decide_eq_false c3
  clear c3
  by_cases c4:a1≥64
  ·rw [if_pos c4] at H
   have fB:=decide_eq_true c4
   clear c4
   obtain rfl:=Option.some.inj H
   go_enter Tryz.func100,Tryz.ntmps100
   go_wp2
   repeat (go_quiet (fail);try go_wp2)
   go_ret
   exact ⟨zT,zW⟩
  ·rw [if_neg c4] at H
   have fB:=decide_eq_false c4
   clear c4
   by_cases c5:0≤a1
   ·rw [if_pos c5] at H
    have gQ:=eq_true c5
    have acf:=decide_eq_true c5
    clear c5
    obtain ⟨ji6,uw⟩:∃ j_:Int,(shr .i64 a0 a1)=j_:=⟨_,rfl⟩
    replace H:(if 0≤(wrap64 (a1 - 1)) then (some (wrap64 ((ji6)+(Go.bits .and .i64 (shr .i64 a0 (wrap64 (a1 - 1))) 1)))) else (none))=some r:=by first|(rw [uw] at H;exact H)|(simp only [uw] at H ⊢;exact H)
    have asY:(a0 / 2 ^ min a1.toNat 64)=ji6:=uw
    have aw3:a1≤64→(a0 / 2 ^ a1.toNat)=ji6:=qp uw
    obtain ⟨ji7,yc⟩:∃ j_:Int,(wrap64 (a1 - 1))=j_:=⟨_,rfl⟩
    replace H:(if 0≤(ji7) then (some (wrap64 ((ji6)+(Go.bits .and .i64 (shr .i64 a0 (ji7)) 1)))) else (none))=some r:=by first|(rw [yc] at H;exact H)|(simp only [yc] at H ⊢;exact H)
    have aCK:(IntKind.i64.wrap (a1 - 1))=ji7:=(bY _).trans yc
    by_cases c8:0≤(ji7)
    ·rw [if_pos c8] at H
     have um:=eq_true c8
     have aas:=decide_eq_true c8
     clear c8
     obtain ⟨ji9,nH⟩:∃ j_:Int,(shr .i64 a0 (ji7))=j_:=⟨_,rfl⟩
     replace H:(some (wrap64 ((ji6)+(Go.bits .and .i64 (ji9) 1))))=some r:=by first|(rw [nH] at H;exact H)|(simp only [nH] at H ⊢;exact H)
     have anq:(a0 / 2 ^ min (ji7).toNat 64)=ji9:=nH
     have aw4:(ji7)≤64→(a0 / 2 ^ (ji7).toNat)=ji9:=qp nH
     obtain rfl:=Option.some.inj H
     go_enter Tryz.func100,Tryz.ntmps100
     go_wp2
     repeat (go_quiet (fail);try go_wp2)
     go_ret
     exact ⟨by first|rfl|(simp;done)|(simp only [← uw,← yc,← nH] <;> (first|rfl|simp))|(simp [*];done),zW⟩
    ·rw [if_neg c8] at H
     exact absurd H (by simp)
   ·rw [if_neg c5] at H
    exact absurd H (by simp)
def wU.f (a0 a1:Int):Option (Bool):=if a1≥1 then (if a1≤1048576 then (if a0≥(wrap64 ((-4)*a1)) then (some (decide (a0≤(wrap64 (4*a1))))) else (some false)) else (some false)) else (some false)
set_option maxHeartbeats 8000000 in
set_option maxRecDepth 100000 in
theorem wU.calls (a0 a1:Int) (r:Bool) (w:World) (h:wU.f a0 a1=some r) :
  Calls Tryz.prog 174 #[.int .i64 a0,.int .i64 a1] w fun e w'=>e = .returned (.bool r)∧cO w w':=by
 have H:=h
 clear h
 unfold wU.f at H
 by_cases c3:a1≥1
 ·rw [if_pos c3] at H
  have fQ:=decide_eq_true c3
  clear c3
  by_cases c4:a1≤1048576
  ·rw [if_pos c4] at H
   have fB:=decide_eq_true c4
   clear c4
   by_cases c5:a0≥(wrap64 ((-4)*a1))
   ·rw [if_pos c5] at H
    have gQ:=decide_eq_true c5
    clear c5
    obtain rfl:=Option.some.inj H
    go_enter Tryz.func174,Tryz.ntmps174
    go_wp2
    go_ret
    exact ⟨zT,zW⟩
   ·rw [if_neg c5] at H
    have gQ:=decide_eq_false c5
    clear c5
    obtain rfl:=Option.some.inj H
    go_enter Tryz.func174,Tryz.ntmps174
    go_wp2
    go_ret
    exact ⟨zT,zW⟩
  ·rw [if_neg c4] at H
   have fB:=decide_eq_false c4
   clear c4
   obtain rfl:=Option.some.inj H
   go_enter Tryz.func174,Tryz.ntmps174
   go_wp2
   go_ret
   exact ⟨zT,zW⟩
 ·rw [if_neg c3] at H
  have fQ:=decide_eq_false c3
  clear c3
  obtain rfl:=Option.some.inj H
  go_enter Tryz.func174,Tryz.ntmps174
  go_wp2
  go_ret
  exact ⟨zT,zW⟩
def sK.f (a0:Int):Option (Int):=some (mx a0 (wrap64 (-a0)))
set_option maxHeartbeats 8000000 in
set_option maxRecDepth 100000 in
theorem sK.calls (a0 r:Int) (w:World) (h:sK.f a0=some r) :
  Calls Tryz.prog 175 #[.int .i64 a0] w fun e w'=>e = .returned (.int .i64 r)∧Below w.heap.size w w':=by
 have HB:=aj.mk (Below.refl w.heap.size w)
 have H:=h
 clear h
 unfold sK.f at H
 obtain ⟨ji2,aaK⟩:∃ j_:Int,(mx a0 (wrap64 (-a0)))=j_:=⟨_,rfl⟩
 replace H:(some ji2)=some r:=by first|(rw [aaK] at H;exact H)|(simp only [aaK] at H ⊢;exact H)
 have aw5:(if a0 < (wrap64 (-a0)) then (wrap64 (-a0)) else a0)=ji2:=aaK
 obtain rfl:=Option.some.inj H
 go_enter Tryz.func175,Tryz.ntmps175
 go_wp2
 go_ret
 exact ⟨by first|rfl|(simp [bH,bI] <;> rfl)|(simp only [← aaK];first|rfl|(simp [bH,bI] <;> rfl))|(simp [*,bH,bI] <;> rfl),zB⟩
def oQ.f (a0 a1 a2:Int):Option (Int × Int):=if a2≥64 then (if 0≤(wrap64 (a2 - 64)) then (some (0,shr .u64 a0 (wrap64 (a2 - 64)))) else (none)) else (if 0≤a2 then (if 0≤(wrap64 (64 - a2)) then (some (shr .u64 a0 a2,Go.bits .or .u64 (shr .u64 a1 a2) (shl .u64 a0 (wrap64 (64 - a2))))) else (none)) else (none))
set_option maxHeartbeats 8000000 in
set_option maxRecDepth 100000 in
theorem oQ.calls (a0 a1 a2 r1 r2:Int) (w:World) (h:oQ.f a0 a1 a2=some (r1,r2)) :
  Calls Tryz.prog 188 #[.int .u64 a0,.int .u64 a1,.int .i64 a2] w fun e w'=>e = .returned (.tuple #[.int .u64 r1,.int .u64 r2])∧cO w w':=by
 have H:=h
 clear h
 unfold oQ.f at H
 by_cases c4:a2≥64
 ·rw [if_pos c4] at H
  have fB:=decide_eq_true c4
  clear c4
  obtain ⟨ji5,yg⟩:∃ j_:Int,(wrap64 (a2 - 64))=j_:=⟨_,rfl⟩
  replace H:(if 0≤(ji5) then (some (0,shr .u64 a0 (ji5))) else (none))=some (r1,r2):=by first|(rw [yg] at H;exact H)|(simp only [yg] at H ⊢;exact H)
  have aCL:(IntKind.i64.wrap (a2 - 64))=ji5:=(bY _).trans yg
  by_cases c6:0≤(ji5)
  ·rw [if_pos c6] at H
   have iw:=eq_true c6
   have vI:=decide_eq_true c6
   clear c6
   obtain ⟨ji7,yc⟩:∃ j_:Int,(shr .u64 a0 (ji5))=j_:=⟨_,rfl⟩
   replace H:(some (0,ji7))=some (r1,r2):=by first|(rw [yc] at H;exact H)|(simp only [yc] at H ⊢;exact H)
   have aw6:(a0 / 2 ^ min (ji5).toNat 64)=ji7:=yc
   have aCM:(ji5)≤64→(a0 / 2 ^ (ji5).toNat)=ji7:=qp yc
   simp only [Option.some.injEq,Prod.mk.injEq] at H
   obtain ⟨rfl,rfl⟩:=H
   go_enter Tryz.func188,Tryz.ntmps188
   go_wp2
   repeat (go_quiet (fail);try go_wp2)
   go_ret2
   exact ⟨by first|rfl|(simp;done)|(simp only [← yg,← yc] <;> (first|rfl|simp))|(simp [*];done),zW⟩
  ·rw [if_neg c6] at H
   exact absurd H (by simp)
 ·rw [if_neg c4] at H
  have fB:=decide_eq_false c4
  clear c4
  by_cases c8:0≤a2
  ·rw [if_pos c8] at H
   have um:=eq_true c8
   have aas:=decide_eq_true c8
   clear c8
   obtain ⟨ji9,nH⟩:∃ j_:Int,(shr .u64 a0 a2)=j_:=⟨_,rfl⟩
   replace H:(if 0≤(wrap64 (64 - a2)) then (some (ji9,Go.bits .or .u64 (shr .u64 a1 a2) (shl .u64 a0 (wrap64 (64 - a2))))) else (none))=some (r1,r2):=by first|(rw [nH] at H;exact H)|(simp only [nH] at H ⊢;exact H)
   have anq:(a0 / 2 ^ min a2.toNat 64)=ji9:=nH
   have aw4:a2≤64→(a0 / 2 ^ a2.toNat)=ji9:=qp nH
   have pK:=eq_true (of_decide_eq_true (by first|(with_reducible assumption)|assumption):0≤a2)
   obtain ⟨ad4,aak⟩:∃ j_:Int,(shr .u64 a1 a2)=j_:=⟨_,rfl⟩
   replace H:(if 0≤(wrap64 (64 - a2)) then (some (ji9,Go.bits .or .u64 (ad4) (shl .u64 a0 (wrap64 (64 - a2))))) else (none))=some (r1,r2):=by first|(rw [aak] at H;exact H)|(simp only [aak] at H ⊢;exact H)
   have avu:(a1 / 2 ^ min a2.toNat 64)=ad4:=aak
   have avv:a2≤64→(a1 / 2 ^ a2.toNat)=ad4:=qp aak
   obtain ⟨jA,pO⟩:∃ j_:Int,(wrap64 (64 - a2))=j_:=⟨_,rfl⟩
   replace H:(if 0≤(jA) then (some (ji9,Go.bits .or .u64 (ad4) (shl .u64 a0 (jA)))) else (none))=some (r1,r2):=by first|(rw [pO] at H;exact H)|(simp only [pO] at H ⊢;exact H)
   have aA2:(IntKind.i64.wrap (64 - a2))=jA:=(bY _).trans pO
   by_cases c13:0≤(jA)
   ·rw [if_pos c13] at H
    have aaT:=eq_true c13
    have ahZ:=decide_eq_true c13
    clear c13
    obtain ⟨arC,ah0⟩:∃ j_:Int,(shl .u64 a0 (jA))=j_:=⟨_,rfl⟩
    replace H:(some (ji9,Go.bits .or .u64 (ad4) (arC)))=some (r1,r2):=by first|(rw [ah0] at H;exact H)|(simp only [ah0] at H ⊢;exact H)
    have aA3:(IntKind.u64.wrap (a0*2 ^ min (jA).toNat 64))=arC:=ah0
    have aA4:(jA)≤64→(IntKind.u64.wrap (a0*2 ^ (jA).toNat))=arC:=yP ah0
    simp only [Option.some.injEq,Prod.mk.injEq] at H
    obtain ⟨rfl,rfl⟩:=H
    go_enter Tryz.func188,Tryz.ntmps188
    go_wp2
    repeat (go_quiet (fail);try go_wp2)
    go_ret2
    exact ⟨by first|rfl|(simp;done)|(simp only [← nH,← aak,← pO,← ah0] <;> (first|rfl|simp))|(simp [*];done),zW⟩
   ·rw [if_neg c13] at H
    exact absurd H (by simp)
  ·rw [if_neg c8] at H
   exact absurd H (by simp)
def sJ.f (a0 a1 a2:Int):Option (Bool):=if a2≥64 then (if a1=0 then (if 0≤(wrap64 (128 - a2)) then (some ((shl .u64 a0 (wrap64 (128 - a2))) == 0)) else (none)) else (some false)) else (if 0≤(wrap64 (64 - a2)) then (some ((shl .u64 a1 (wrap64 (64 - a2))) == 0)) else (none))
set_option maxHeartbeats 8000000 in
set_option maxRecDepth 100000 in
theorem sJ.calls (a0 a1 a2:Int) (r:Bool) (w:World) (h:sJ.f a0 a1 a2=some r) :
  Calls Tryz.prog 189 #[.int .u64 a0,.int .u64 a1,.int .i64 a2] w fun e w'=>e = .returned (.bool r)∧cO w w':=by
 have H:=h
 clear h
 unfold sJ.f at H
 by_cases c4:a2≥64
 ·rw [if_pos c4] at H
  have fB:=decide_eq_true c4
  clear c4
  by_cases c5:a1=0
  ·rw [if_pos c5] at H
   have gQ:(a1 == 0)=true:=beq_iff_eq.mpr c5
   have acf:(a1 != 0)=false:=bne_eq_false_iff_eq.mpr c5
   clear c5
   obtain ⟨ji6,uw⟩:∃ j_:Int,(wrap64 (128 - a2))=j_:=⟨_,rfl⟩
   replace H:(if 0≤(ji6) then (some ((shl .u64 a0 (ji6)) == 0)) else (none))=some r:=by first|(rw [uw] at H;exact H)|(simp only [uw] at H ⊢;exact H)
   have aCN:(IntKind.i64.wrap (128 - a2))=ji6:=(bY _).trans uw
   by_cases c7:0≤(ji6)
   ·rw [if_pos c7] at H
    have jf:=eq_true c7
    have aar:=decide_eq_true c7
    clear c7
    obtain ⟨ji8,qN⟩:∃ j_:Int,(shl .u64 a0 (ji6))=j_:=⟨_,rfl⟩
    replace H:(some ((ji8) == 0))=some r:=by first|(rw [qN] at H;exact H)|(simp only [qN] at H ⊢;exact H)
    have asX:(IntKind.u64.wrap (a0*2 ^ min (ji6).toNat 64))=ji8:=qN
    have aCO:(ji6)≤64→(IntKind.u64.wrap (a0*2 ^ (ji6).toNat))=ji8:=yP qN
    obtain rfl:=Option.some.inj H
    go_enter Tryz.func189,Tryz.ntmps189
    go_wp2
    go_ret
    exact ⟨by first|rfl|(simp;done)|(simp only [← uw,← qN] <;> (first|rfl|simp))|(simp [*];done),zW⟩
   ·rw [if_neg c7] at H
    exact absurd H (by simp)
  ·rw [if_neg c5] at H
   have gQ:(a1 == 0)=false:=beq_eq_false_iff_ne.mpr c5
   have acf:(a1 != 0)=true:=bne_iff_ne.mpr c5
   obtain rfl:=Option.some.inj H
   go_enter Tryz.func189,Tryz.ntmps189
   go_wp2
   go_ret
   exact ⟨zT,zW⟩
 ·rw [if_neg c4] at H
  have fB:=decide_eq_false c4
  clear c4
  obtain ⟨ji9,nH⟩:∃ j_:Int,(wrap64 (64 - a2))=j_:=⟨_,rfl⟩
  replace H:(if 0≤(ji9) then (some ((shl .u64 a1 (ji9)) == 0)) else (none))=some r:=by first|(rw [nH] at H;exact H)|(simp only [nH] at H ⊢;exact H)
  have aCP:(IntKind.i64.wrap (64 - a2))=ji9:=(bY _).trans nH
  by_cases c10:0≤(ji9)
  ·rw [if_pos c10] at H
   have pK:=eq_true c10
   have ahA:=decide_eq_true c10
   clear c10
   obtain ⟨ad4,aak⟩:∃ j_:Int,(shl .u64 a1 (ji9))=j_:=⟨_,rfl⟩
   replace H:(some ((ad4) == 0))=some r:=by first|(rw [aak] at H;exact H)|(simp only [aak] at H ⊢;exact H)
   have avu:(IntKind.u64.wrap (a1*2 ^ min (ji9).toNat 64))=ad4:=aak
   have avv:(ji9)≤64→(IntKind.u64.wrap (a1*2 ^ (ji9).toNat))=ad4:=yP aak
   obtain rfl:=Option.some.inj H
   go_enter Tryz.func189,Tryz.ntmps189
   go_wp2
   go_ret
   exact ⟨by first|rfl|(simp;done)|(simp only [← nH,← aak] <;> (first|rfl|simp))|(simp [*];done),zW⟩
  ·rw [if_neg c10] at H
   exact absurd H (by simp)
end Go.Proofs.YtpondkggmcmpfaaGreatDoor.QA
namespace Go.Proofs.YtpondkggmcmpfaaGreatDoor.QA
open Go.Proofs.YtpondkggmcmpfaaGreatDoor.T
open Go.RowKit Go.Proofs.YtpondkggmcmpfaaGreatDoorW.PrintWords Go.Proofs.YtpondkggmcmpfaaGreatDoorW.PrintLast Go.Proofs.YtpondkggmcmpfaaGreatDoorW.PrintMore
attribute [local go_sem] dV dP dQ fC fD
set_option linter.unusedVariables false
set_option linter.unusedSimpArgs false
def dD.j0:Nat→Bool→Int→Int→Bool→Option (Int)
 | 0,_,_,_,_=>none
 | k+1,x9,x10,x11,x59=>if x59=true then ((dh.f k x10 x11 x9).bind fun arD=>(some arD)) else ((dh.f k (IntKind.u64.wrap (x10+(qy x11 1 0))) (qw x11 1 0) x9).bind fun arE=>(some arE))
def dD.f (k:Nat) (a0 a1 a2:Int):Option (Int):=if (mx 0 a2)≥128 then (some 0) else ((kL.f a0 a1).bind fun mM=>(if (mx 0 a2)=0 then ((dh.f k mM.1 mM.2.1 mM.2.2).bind fun alU=>(some alU)) else ((oQ.f mM.1 mM.2.1 (mx 0 a2)).bind fun xO=>((oQ.f mM.1 mM.2.1 (wrap64 ((mx 0 a2) - 1))).bind fun aom=>(if (Go.bits .and .u64 aom.2 1)=0 then (dD.j0 k mM.2.2 xO.1 xO.2 true) else (if mM.2.2=true then ((sJ.f mM.1 mM.2.1 (wrap64 ((mx 0 a2) - 1))).bind fun ai4=>(dD.j0 k mM.2.2 xO.1 xO.2 ai4)) else (dD.j0 k mM.2.2 xO.1 xO.2 false)))))))
theorem dD.jd:∀ k,(∀ y0 y1 y2 y3,LeO (dD.j0 k y0 y1 y2 y3) (dD.j0 (k+1) y0 y1 y2 y3))
 | 0=>fun _ _ _ _ r h=>by simp [dD.j0] at h
 | k+1=>by
  have ih0:=dD.jd k
  ·intro y0 y1 y2 y3
   unfold dD.j0
   repeat' (with_reducible first|exact ih0 _ _ _ _|exact dh.mono _ _ _ _|exact zM|refine LeO.ite ?_ ?_|refine LeO.bind ?_ (fun _ => ?_))
theorem dD.mono:∀ a0 a1 a2 k,LeO (dD.f k a0 a1 a2) (dD.f (k+1) a0 a1 a2):=by
 intro a0 a1 a2 k
 have ih0:=dD.jd k
 unfold dD.f
 repeat' (with_reducible first|exact ih0 _ _ _ _|exact dh.mono _ _ _ _|exact zM|refine LeO.ite ?_ ?_|refine LeO.bind ?_ (fun _ => ?_))
set_option maxHeartbeats 8000000 in
set_option maxRecDepth 100000 in
theorem dD.calls (k:Nat) (a0 a1 a2 r:Int) (w:World) (h:dD.f k a0 a1 a2=some r) :
  Calls Tryz.prog 176 #[.int .i64 a0,.int .i64 a1,.int .i64 a2] w fun e w'=>e = .returned (.int .i64 r)∧Below w.heap.size w w':=by
 have HB:=aj.mk (Below.refl w.heap.size w)
 have H:=h
 clear h
 unfold dD.f at H
 obtain ⟨ji4,qg⟩:∃ j_:Int,(mx 0 a2)=j_:=⟨_,rfl⟩
 replace H:(if (ji4)≥128 then (some 0) else ((kL.f a0 a1).bind fun mM=>(if (ji4)=0 then ((dh.f k mM.1 mM.2.1 mM.2.2).bind fun alU=>(some alU)) else ((oQ.f mM.1 mM.2.1 (ji4)).bind fun xO=>((oQ.f mM.1 mM.2.1 (wrap64 ((ji4) - 1))).bind fun aom=>(if (Go.bits .and .u64 aom.2 1)=0 then (dD.j0 k mM.2.2 xO.1 xO.2 true) else (if mM.2.2=true then ((sJ.f mM.1 mM.2.1 (wrap64 ((ji4) - 1))).bind fun ai4=>(dD.j0 k mM.2.2 xO.1 xO.2 ai4)) else (dD.j0 k mM.2.2 xO.1 xO.2 false))))))))=some r:=by first|(rw [qg] at H;exact H)|(simp only [qg] at H ⊢;exact H)
 (try (have asZ:0≤ji4:=by (rw [← qg];unfold mx;(repeat' split) <;> omega)))
 (try (have aCQ:0≤ji4:=by omega))
 have as1:(if 0 < a2 then a2 else 0)=ji4:=qg
 by_cases c5:(ji4)≥128
 ·rw [if_pos c5] at H
  have gQ:=decide_eq_true c5
  clear c5
  obtain rfl:=Option.some.inj H
  go_enter Tryz.func176,Tryz.ntmps176
  go_wp2
  go_ret
  exact ⟨by first|rfl|(simp [bH,bI] <;> rfl)|(simp only [← qg];first|rfl|(simp [bH,bI] <;> rfl))|(simp [*,bH,bI] <;> rfl),zB⟩
 ·rw [if_neg c5] at H
  have gQ:=decide_eq_false c5
  clear c5
  replace H:=zO H
  obtain ⟨⟨t141,ad5,t143⟩,A6,H⟩:=H
  try dsimp only at H
  by_cases c7:(ji4)=0
  ·rw [if_pos c7] at H
   have jf:((ji4) == 0)=true:=beq_iff_eq.mpr c7
   have aar:((ji4) != 0)=false:=bne_eq_false_iff_eq.mpr c7
   clear c7
   replace H:=zO H
   obtain ⟨alU,A8,H⟩:=H
   try dsimp only at H
   obtain rfl:=Option.some.inj H
   go_enter Tryz.func176,Tryz.ntmps176
   go_wp2_with (first|((with_reducible refine ay (f:=154) rfl ?_);refine aH (some 22) rfl rfl Tryz.func154 (by kernel_rfl) rfl #[.int .i64 a0,.int .i64 a1] rfl zL ?_;(with_reducible refine (kL.calls a0 a1 t141 ad5 t143 _ A6.out).mono ?_);rintro e w' ⟨rfl,⟨nd,rfl⟩⟩;refine ⟨_,rfl,?_⟩)|((with_reducible refine ay (f:=156) rfl ?_);refine aH (some 31) rfl rfl Tryz.func156 (by kernel_rfl) rfl #[.int .u64 t141,.int .u64 ad5,.bool t143] rfl zL ?_;(with_reducible refine (dh.calls k t141 ad5 t143 alU _ A8.out).mono ?_);rintro e w' ⟨rfl,⟨nd,rfl⟩⟩;refine ⟨_,rfl,?_⟩))
   go_ret
   exact ⟨by first|rfl|(simp [bH,bI] <;> rfl)|(simp only [← qg];first|rfl|(simp [bH,bI] <;> rfl))|(simp [*,bH,bI] <;> rfl),zB⟩
  ·rw [if_neg c7] at H
   have jf:((ji4) == 0)=false:=beq_eq_false_iff_ne.mpr c7
   have aar:((ji4) != 0)=true:=bne_iff_ne.mpr c7
   replace H:=zO H
   obtain ⟨⟨t145,t146⟩,A9,H⟩:=H
   try dsimp only at H
   replace H:=zO H
   obtain ⟨⟨aze,t148⟩,A10,H⟩:=H
   try dsimp only at H
   have arF:=aj.mk H
   clear H
   go_enter Tryz.func176,Tryz.ntmps176
   go_upto_region 9 with (first|((with_reducible refine ay (f:=154) rfl ?_);refine aH (some 22) rfl rfl Tryz.func154 (by kernel_rfl) rfl #[.int .i64 a0,.int .i64 a1] rfl zL ?_;(with_reducible refine (kL.calls a0 a1 t141 ad5 t143 _ A6.out).mono ?_);rintro e w' ⟨rfl,⟨nd,rfl⟩⟩;refine ⟨_,rfl,?_⟩)|((with_reducible refine ay (f:=188) rfl ?_);refine aH (some 36) rfl rfl Tryz.func188 (by kernel_rfl) rfl #[.int .u64 t141,.int .u64 ad5,.int .i64 ji4] rfl (by (try simp only [List.map_toArray,List.map_cons,List.map_nil]);first|done|(simp only [qg];rfl)|(simp only [Int.tdiv_eq_ediv_of_nonneg asZ];rfl)|rfl|(simp only [List.length_drop,List.length_take];rfl)) ?_;(with_reducible refine (oQ.calls t141 ad5 ji4 t145 t146 _ A9.out).mono ?_);rintro e w' ⟨rfl,⟨nd,rfl⟩⟩;refine ⟨_,rfl,?_⟩)|((with_reducible refine ay (f:=188) rfl ?_);refine aH (some 44) rfl rfl Tryz.func188 (by kernel_rfl) rfl #[.int .u64 t141,.int .u64 ad5,.int .i64 (wrap64 ((ji4) - 1))] rfl (by (try simp only [List.map_toArray,List.map_cons,List.map_nil]);first|done|(simp only [qg];rfl)|(simp only [Int.tdiv_eq_ediv_of_nonneg asZ];rfl)|rfl|(simp only [List.length_drop,List.length_take];rfl)) ?_;(with_reducible refine (oQ.calls t141 ad5 (wrap64 ((ji4) - 1)) aze t148 _ A10.out).mono ?_);rintro e w' ⟨rfl,⟨nd,rfl⟩⟩;refine ⟨_,rfl,?_⟩))
   (try simp only [Act.put,List.setIfInBounds_toArray,List.set_cons_zero,List.set_cons_succ])
   go_cut [59] (fun v59 wc=>∃ (kq:Nat) (ah1:Bool),v59 = .bool ah1∧aj (dD.j0 kq t143 t145 t146 ah1=some r)∧aj (kq≤k)∧aj (Below w.heap.size w wc))
   case first =>
    have H:=arF.out
    clear arF
    by_cases c12:(Go.bits .and .u64 t148 1)=0
    ·rw [if_pos c12] at H
     have aaU:((Go.bits .and .u64 t148 1) == 0)=true:=beq_iff_eq.mpr c12
     have as2:((Go.bits .and .u64 t148 1) != 0)=false:=bne_eq_false_iff_eq.mpr c12
     clear c12
     (first|rw [aaU]|(simp only [bY,dw];rw [aaU])|skip)
     have H':=aj.mk H
     clear H
     go_wp2
     go_meet
     case rel=>exact ⟨_,(true),zT,H',⟨by first|omega|exact Nat.le_refl _⟩,⟨zB⟩⟩
    ·rw [if_neg c12] at H
     have aaU:((Go.bits .and .u64 t148 1) == 0)=false:=beq_eq_false_iff_ne.mpr c12
     have as2:((Go.bits .and .u64 t148 1) != 0)=true:=bne_iff_ne.mpr c12
     (first|rw [aaU]|(simp only [bY,dw];rw [aaU])|skip)
     by_cases c13:t143=true
     ·subst c13
      rw [if_pos rfl] at H;try dsimp only at H
      replace H:=zO H
      obtain ⟨ai4,A14,H⟩:=H
      try dsimp only at H
      have H':=aj.mk H
      clear H
      go_wp2_with (first|(go_at_call 189;(with_reducible refine (sJ.calls t141 ad5 (wrap64 ((ji4) - 1)) ai4 _ A14.out).mono ?_);rintro e w' ⟨rfl,⟨nd,rfl⟩⟩))
      go_meet
      case rel=>exact ⟨_,(ai4),zT,H',⟨by first|omega|exact Nat.le_refl _⟩,⟨zB⟩⟩
     ·replace c13:=Bool.eq_false_iff.mpr c13
      subst c13
      rw [if_neg (show ¬ (false=true) by decide)] at H;try dsimp only at H
      have H':=aj.mk H
      clear H
      go_wp2
      go_meet
      case rel=>exact ⟨_,(false),zT,H',⟨by first|omega|exact Nat.le_refl _⟩,⟨zB⟩⟩
   case rest =>
    clear arF
    obtain ⟨kq,ah1,rfl,HA,aEj,HB⟩:=hcut
    cases kq with
    | zero=>exact absurd HA.out (by simp [dD.j0])
    | succ avw =>
     have H:=HA.out
     clear HA
     simp only [dD.j0] at H
     by_cases c15:ah1=true
     ·subst c15
      rw [if_pos rfl] at H;try dsimp only at H
      replace H:=zO H
      obtain ⟨arD,A16,H⟩:=H
      try dsimp only at H
      obtain rfl:=Option.some.inj H
      go_wp2_with (first|((with_reducible refine ay (f:=156) rfl ?_);refine aH (some 63) rfl rfl Tryz.func156 (by kernel_rfl) rfl #[.int .u64 t145,.int .u64 t146,.bool t143] rfl zL ?_;(with_reducible refine (dh.calls avw t145 t146 t143 arD _ A16.out).mono ?_);rintro e w' ⟨rfl,⟨nd,rfl⟩⟩;refine ⟨_,rfl,?_⟩))
      go_ret
      exact ⟨by first|rfl|(simp [bH,bI] <;> rfl)|(simp only [← qg];first|rfl|(simp [bH,bI] <;> rfl))|(simp [*,bH,bI] <;> rfl),zB⟩
     ·replace c15:=Bool.eq_false_iff.mpr c15
      subst c15
      rw [if_neg (show ¬ (false=true) by decide)] at H;try dsimp only at H
      replace H:=zO H
      obtain ⟨arE,A17,H⟩:=H
      try dsimp only at H
      obtain rfl:=Option.some.inj H
      go_wp2_with (first|((with_reducible refine ay (f:=156) rfl ?_);refine aH (some 74) rfl rfl Tryz.func156 (by kernel_rfl) rfl #[.int .u64 (IntKind.u64.wrap (t145+(qy t146 1 0))),.int .u64 (qw t146 1 0),.bool t143] rfl zL ?_;(with_reducible refine (dh.calls avw (IntKind.u64.wrap (t145+(qy t146 1 0))) (qw t146 1 0) t143 arE _ A17.out).mono ?_);rintro e w' ⟨rfl,⟨nd,rfl⟩⟩;refine ⟨_,rfl,?_⟩))
      go_ret
      exact ⟨by first|rfl|(simp [bH,bI] <;> rfl)|(simp only [← qg];first|rfl|(simp [bH,bI] <;> rfl))|(simp [*,bH,bI] <;> rfl),zB⟩
def eF.l0:Nat→Int→Int→Int→Int→Int→Option (Int)
 | 0,_,_,_,_,_=>none
 | k+1,x5,x6,x7,x8,x9=>if x9≤30 then ((bf.f k x7 x5 (wrap64 ((wrap64 ((wrap64 (2*x9))*(wrap64 ((wrap64 (2*x9))+1))))*1099511627776))).bind fun ai5=>(eF.l0 k x5 (wrap64 (x6+(wrap64 ((wrap64 (-x8))*ai5)))) ai5 (wrap64 (-x8)) (wrap64 (x9+1)))) else (some x6)
def eF.f (k:Nat) (a0 a1:Int):Option (Int):=(sK.f a0).bind fun t152=>((bf.f k 10851744800547 t152 a1).bind fun alV=>((bf.f k alV t152 a1).bind fun t154=>(eF.l0 k t154 1099511627776 1099511627776 1 1)))
theorem eF.jd:∀ k,(∀ y0 y1 y2 y3 y4,LeO (eF.l0 k y0 y1 y2 y3 y4) (eF.l0 (k+1) y0 y1 y2 y3 y4))
 | 0=>fun _ _ _ _ _ r h=>by simp [eF.l0] at h
 | k+1=>by
  have ih0:=eF.jd k
  ·intro y0 y1 y2 y3 y4
   unfold eF.l0
   repeat' (with_reducible first|exact ih0 _ _ _ _ _|exact bf.mono _ _ _ _|exact zM|refine LeO.ite ?_ ?_|refine LeO.bind ?_ (fun _ => ?_))
theorem eF.mono:∀ a0 a1 k,LeO (eF.f k a0 a1) (eF.f (k+1) a0 a1):=by
 intro a0 a1 k
 have ih0:=eF.jd k
 unfold eF.f
 repeat' (with_reducible first|exact ih0 _ _ _ _ _|exact bf.mono _ _ _ _|exact zM|refine LeO.ite ?_ ?_|refine LeO.bind ?_ (fun _ => ?_))
set_option maxHeartbeats 8000000 in
set_option maxRecDepth 100000 in
theorem eF.calls (k:Nat) (a0 a1 r:Int) (w:World) (h:eF.f k a0 a1=some r) :
  Calls Tryz.prog 177 #[.int .i64 a0,.int .i64 a1] w fun e w'=>e = .returned (.int .i64 r)∧Below w.heap.size w w':=by
 have HB:=aj.mk (Below.refl w.heap.size w)
 have H:=h
 clear h
 unfold eF.f at H
 replace H:=zO H
 obtain ⟨t152,A3,H⟩:=H
 try dsimp only at H
 replace H:=zO H
 obtain ⟨alV,A4,H⟩:=H
 try dsimp only at H
 replace H:=zO H
 obtain ⟨t154,A5,H⟩:=H
 try dsimp only at H
 have H':=aj.mk H
 clear H
 go_enter Tryz.func177,Tryz.ntmps177
 go_wp2_with (first|((with_reducible refine ay (f:=175) rfl ?_);refine aH (some 11) rfl rfl Tryz.func175 (by kernel_rfl) rfl #[.int .i64 a0] rfl zL ?_;(with_reducible refine (sK.calls a0 t152 _ A3.out).mono ?_);rintro e w6 ⟨rfl,hb⟩;refine ⟨_,rfl,?_⟩;replace HB:=aj.mk (ak zB hb);(try clear hb))|((with_reducible refine ay (f:=130) rfl ?_);refine aH (some 14) rfl rfl Tryz.func130 (by kernel_rfl) rfl #[.int .i64 10851744800547,.int .i64 t152,.int .i64 a1] rfl zL ?_;(with_reducible refine (bf.calls k 10851744800547 t152 a1 alV _ A4.out).mono ?_);rintro e w' ⟨rfl,⟨nd,rfl⟩⟩;refine ⟨_,rfl,?_⟩)|((with_reducible refine ay (f:=130) rfl ?_);refine aH (some 17) rfl rfl Tryz.func130 (by kernel_rfl) rfl #[.int .i64 alV,.int .i64 t152,.int .i64 a1] rfl zL ?_;(with_reducible refine (bf.calls k alV t152 a1 t154 _ A5.out).mono ?_);rintro e w' ⟨rfl,⟨nd,rfl⟩⟩;refine ⟨_,rfl,?_⟩))
 go_loopg [6,7,8,9] k (fun kq v6 v7 v8 v9 w'=>∃ (qE:Int) (alW:Int) (iy:Int) (uy:Int),v6 = .int .i64 qE∧v7 = .int .i64 alW∧v8 = .int .i64 iy∧v9 = .int .i64 uy∧aj (eF.l0 kq t154 qE alW iy uy=some r)∧aj (kq≤k)∧aj (Below w.heap.size w w'))
 case atStart=>exact ⟨(1099511627776),(1099511627776),(1),(1),zT,zT,zT,zT,H',⟨Nat.le_refl _⟩,⟨zB⟩⟩
 case round =>
  clear H'
  obtain ⟨qE,alW,iy,uy,rfl,rfl,rfl,rfl,HA,HK1,HB⟩:=hrel
  cases gk with
  | zero=>exact absurd HA.out (by simp [eF.l0])
  | succ k1 =>
   have H:=HA.out
   clear HA
   simp only [eF.l0] at H
   by_cases c7:uy≤30
   ·rw [if_pos c7] at H
    have jf:=decide_eq_true c7
    clear c7
    replace H:=zO H
    obtain ⟨ai5,A8,H⟩:=H
    try dsimp only at H
    have H':=aj.mk H
    clear H
    go_wp2_with (first|((with_reducible refine ay (f:=130) rfl ?_);refine aH (some 33) rfl rfl Tryz.func130 (by kernel_rfl) rfl #[.int .i64 alW,.int .i64 t154,.int .i64 (wrap64 ((wrap64 ((wrap64 (2*uy))*(wrap64 ((wrap64 (2*uy))+1))))*1099511627776))] rfl zL ?_;(with_reducible refine (bf.calls k1 alW t154 (wrap64 ((wrap64 ((wrap64 (2*uy))*(wrap64 ((wrap64 (2*uy))+1))))*1099511627776)) ai5 _ A8.out).mono ?_);rintro e w' ⟨rfl,⟨nd,rfl⟩⟩;refine ⟨_,rfl,?_⟩))
    go_roundg k1
    case measure=>have:=HK1.out;omega
    case rel=>exact ⟨(wrap64 (qE+(wrap64 ((wrap64 (-iy))*ai5)))),(ai5),(wrap64 (-iy)),(wrap64 (uy+1)),zT,zT,zT,zT,H',⟨by have:=HK1.out;omega⟩,⟨zB⟩⟩
   ·rw [if_neg c7] at H
    have jf:=decide_eq_false c7
    clear c7
    obtain rfl:=Option.some.inj H
    go_wp2
    go_ret
    exact ⟨zS,zB⟩
end Go.Proofs.YtpondkggmcmpfaaGreatDoor.QA
namespace Go.Proofs.YtpondkggmcmpfaaGreatDoor.QA
open Go.Proofs.YtpondkggmcmpfaaGreatDoor.T
open Go.RowKit Go.Proofs.YtpondkggmcmpfaaGreatDoorW.PrintWords Go.Proofs.YtpondkggmcmpfaaGreatDoorW.PrintLast Go.Proofs.YtpondkggmcmpfaaGreatDoorW.PrintMore
attribute [local go_sem] dV dP dQ fC fD
set_option linter.unusedVariables false
set_option linter.unusedSimpArgs false
def eG.j0:Nat→Int→Int→Bool→Option (Int)
 | 0,_,_,_=>none
 | k+1,x0,x1,x15=>if x15=true then (some 0) else ((eF.f k x0 x1).bind fun alX=>((eF.f k x0 (wrap64 (3*x1))).bind fun t159=>((dD.f k alX t159 40).bind fun t160=>((lg.f t160 10).bind fun arG=>(some arG)))))
def eG.f (k:Nat) (a0 a1:Int):Option (Int):=(wU.f a0 a1).bind fun t156=>(if t156=true then ((sK.f a0).bind fun t157=>(eG.j0 k a0 a1 (decide (t157≥(wrap64 (3*a1)))))) else (eG.j0 k a0 a1 true))
theorem eG.jd:∀ k,(∀ y0 y1 y2,LeO (eG.j0 k y0 y1 y2) (eG.j0 (k+1) y0 y1 y2))
 | 0=>fun _ _ _ r h=>by simp [eG.j0] at h
 | k+1=>by
  have ih0:=eG.jd k
  ·intro y0 y1 y2
   unfold eG.j0
   repeat' (with_reducible first|exact ih0 _ _ _|exact eF.mono _ _ _|exact dD.mono _ _ _ _|exact zM|refine LeO.ite ?_ ?_|refine LeO.bind ?_ (fun _ => ?_))
theorem eG.mono:∀ a0 a1 k,LeO (eG.f k a0 a1) (eG.f (k+1) a0 a1):=by
 intro a0 a1 k
 have ih0:=eG.jd k
 unfold eG.f
 repeat' (with_reducible first|exact ih0 _ _ _|exact eF.mono _ _ _|exact dD.mono _ _ _ _|exact zM|refine LeO.ite ?_ ?_|refine LeO.bind ?_ (fun _ => ?_))
set_option maxHeartbeats 8000000 in
set_option maxRecDepth 100000 in
theorem eG.calls (k:Nat) (a0 a1 r:Int) (w:World) (h:eG.f k a0 a1=some r) :
  Calls Tryz.prog 153 #[.int .i64 a0,.int .i64 a1] w fun e w'=>e = .returned (.int .i64 r)∧Below w.heap.size w w':=by
 have HB:=aj.mk (Below.refl w.heap.size w)
 have H:=h
 clear h
 unfold eG.f at H
 have HC3:=aj.mk H
 clear H
 go_enter Tryz.func153,Tryz.ntmps153
 go_upto_region 1 with (fail)
 go_cut [15] (fun v15 wc=>∃ (kq:Nat) (akp:Bool),v15 = .bool akp∧aj (eG.j0 kq a0 a1 akp=some r)∧aj (kq≤k)∧aj (Below w.heap.size w wc))
 case first =>
  have H:=HC3.out
  clear HC3
  replace H:=zO H
  obtain ⟨t156,A4,H⟩:=H
  try dsimp only at H
  by_cases c5:t156=true
  ·subst c5
   rw [if_pos rfl] at H;try dsimp only at H
   replace H:=zO H
   obtain ⟨t157,A6,H⟩:=H
   try dsimp only at H
   have H':=aj.mk H
   clear H
   go_wp2_with (first|((with_reducible refine ay (f:=174) rfl ?_);refine aH (some 7) rfl rfl Tryz.func174 (by kernel_rfl) rfl #[.int .i64 a0,.int .i64 a1] rfl zL ?_;(with_reducible refine (wU.calls a0 a1 true _ A4.out).mono ?_);rintro e w' ⟨rfl,⟨nd,rfl⟩⟩;refine ⟨_,rfl,?_⟩)|(go_at_call 175;(with_reducible refine (sK.calls a0 t157 _ A6.out).mono ?_);rintro e w7 ⟨rfl,hb⟩;replace HB:=aj.mk (ak zB hb);(try clear hb)))
   go_meet
   case rel=>exact ⟨_,(decide (t157≥(wrap64 (3*a1)))),zT,H',⟨by first|omega|exact Nat.le_refl _⟩,⟨zB⟩⟩
  ·replace c5:=Bool.eq_false_iff.mpr c5
   subst c5
   rw [if_neg (show ¬ (false=true) by decide)] at H;try dsimp only at H
   have H':=aj.mk H
   clear H
   go_wp2_with (first|((with_reducible refine ay (f:=174) rfl ?_);refine aH (some 7) rfl rfl Tryz.func174 (by kernel_rfl) rfl #[.int .i64 a0,.int .i64 a1] rfl zL ?_;(with_reducible refine (wU.calls a0 a1 false _ A4.out).mono ?_);rintro e w' ⟨rfl,⟨nd,rfl⟩⟩;refine ⟨_,rfl,?_⟩))
   go_meet
   case rel=>exact ⟨_,(true),zT,H',⟨by first|omega|exact Nat.le_refl _⟩,⟨zB⟩⟩
 case rest =>
  clear HC3
  obtain ⟨kq,akp,rfl,HA,HJ2,HB⟩:=hcut
  cases kq with
  | zero=>exact absurd HA.out (by simp [eG.j0])
  | succ kj2 =>
   have H:=HA.out
   clear HA
   simp only [eG.j0] at H
   by_cases c8:akp=true
   ·subst c8
    rw [if_pos rfl] at H;try dsimp only at H
    obtain rfl:=Option.some.inj H
    go_wp2
    go_ret
    exact ⟨zS,zB⟩
   ·replace c8:=Bool.eq_false_iff.mpr c8
    subst c8
    rw [if_neg (show ¬ (false=true) by decide)] at H;try dsimp only at H
    replace H:=zO H
    obtain ⟨alX,A9,H⟩:=H
    try dsimp only at H
    replace H:=zO H
    obtain ⟨t159,A10,H⟩:=H
    try dsimp only at H
    replace H:=zO H
    obtain ⟨t160,A11,H⟩:=H
    try dsimp only at H
    replace H:=zO H
    obtain ⟨arG,A12,H⟩:=H
    try dsimp only at H
    obtain rfl:=Option.some.inj H
    go_wp2_with (first|((with_reducible refine ay (f:=177) rfl ?_);refine aH (some 18) rfl rfl Tryz.func177 (by kernel_rfl) rfl #[.int .i64 a0,.int .i64 a1] rfl zL ?_;(with_reducible refine (eF.calls kj2 a0 a1 alX _ A9.out).mono ?_);rintro e w13 ⟨rfl,hb⟩;refine ⟨_,rfl,?_⟩;replace HB:=aj.mk (ak zB hb);(try clear hb))|((with_reducible refine ay (f:=177) rfl ?_);refine aH (some 22) rfl rfl Tryz.func177 (by kernel_rfl) rfl #[.int .i64 a0,.int .i64 (wrap64 (3*a1))] rfl zL ?_;(with_reducible refine (eF.calls kj2 a0 (wrap64 (3*a1)) t159 _ A10.out).mono ?_);rintro e w14 ⟨rfl,hb⟩;refine ⟨_,rfl,?_⟩;replace HB:=aj.mk (ak zB hb);(try clear hb))|((with_reducible refine ay (f:=176) rfl ?_);refine aH (some 23) rfl rfl Tryz.func176 (by kernel_rfl) rfl #[.int .i64 alX,.int .i64 t159,.int .i64 40] rfl zL ?_;(with_reducible refine (dD.calls kj2 alX t159 40 t160 _ A11.out).mono ?_);rintro e w15 ⟨rfl,hb⟩;refine ⟨_,rfl,?_⟩;replace HB:=aj.mk (ak zB hb);(try clear hb))|((with_reducible refine ay (f:=100) rfl ?_);refine aH (some 24) rfl rfl Tryz.func100 (by kernel_rfl) rfl #[.int .i64 t160,.int .i64 10] rfl zL ?_;(with_reducible refine (lg.calls t160 10 arG _ A12.out).mono ?_);rintro e w' ⟨rfl,⟨nd,rfl⟩⟩;refine ⟨_,rfl,?_⟩))
    go_ret
    exact ⟨zS,zB⟩
def oz.f (k:Nat) (a0 a1 a2 a3 a4:Int):Option (Int):=if a0=0 then ((bf.f k (wrap64 ((mn (wrap64 ((wrap64 (a3+1))*a1)) (wrap64 ((wrap64 (a4+1))*a2))) - (mx (wrap64 (a3*a1)) (wrap64 (a4*a2))))) 1073741824 a1).bind fun t162=>(some t162)) else (if a0=1 then ((fP.f k (wrap64 ((wrap64 ((wrap64 ((wrap64 (2*a2))*a4)) - (wrap64 ((wrap64 ((wrap64 (2*a3))+1))*a1))))+a2)) (wrap64 (2*(mx a1 a2)))).bind fun alY=>(some alY)) else ((eG.f k (wrap64 ((wrap64 ((wrap64 ((wrap64 (2*a2))*a4)) - (wrap64 ((wrap64 ((wrap64 (2*a3))+1))*a1))))+a2)) (wrap64 (2*(mx a1 a2)))).bind fun t164=>(some t164)))
theorem oz.mono:∀ a0 a1 a2 a3 a4 k,LeO (oz.f k a0 a1 a2 a3 a4) (oz.f (k+1) a0 a1 a2 a3 a4):=by
 intro a0 a1 a2 a3 a4 k
 unfold oz.f
 repeat' (with_reducible first|exact fP.mono _ _ _|exact eG.mono _ _ _|exact bf.mono _ _ _ _|exact zM|refine LeO.ite ?_ ?_|refine LeO.bind ?_ (fun _ => ?_))
set_option maxHeartbeats 8000000 in
set_option maxRecDepth 100000 in
theorem oz.calls (k:Nat) (a0 a1 a2 a3 a4 r:Int) (w:World) (h:oz.f k a0 a1 a2 a3 a4=some r) :
  Calls Tryz.prog 129 #[.int .i64 a0,.int .i64 a1,.int .i64 a2,.int .i64 a3,.int .i64 a4] w fun e w'=>e = .returned (.int .i64 r)∧Below w.heap.size w w':=by
 have HB:=aj.mk (Below.refl w.heap.size w)
 have H:=h
 clear h
 unfold oz.f at H
 by_cases c6:a0=0
 ·rw [if_pos c6] at H
  have iw:(a0 == 0)=true:=beq_iff_eq.mpr c6
  have vI:(a0 != 0)=false:=bne_eq_false_iff_eq.mpr c6
  clear c6
  obtain ⟨ji7,yc⟩:∃ j_:Int,(mn (wrap64 ((wrap64 (a3+1))*a1)) (wrap64 ((wrap64 (a4+1))*a2)))=j_:=⟨_,rfl⟩
  replace H:((bf.f k (wrap64 ((ji7) - (mx (wrap64 (a3*a1)) (wrap64 (a4*a2))))) 1073741824 a1).bind fun t162=>(some t162))=some r:=by first|(rw [yc] at H;exact H)|(simp only [yc] at H ⊢;exact H)
  have aw6:(if (wrap64 ((wrap64 (a4+1))*a2)) < (wrap64 ((wrap64 (a3+1))*a1)) then (wrap64 ((wrap64 (a4+1))*a2)) else (wrap64 ((wrap64 (a3+1))*a1)))=ji7:=yc
  obtain ⟨ji8,qN⟩:∃ j_:Int,(mx (wrap64 (a3*a1)) (wrap64 (a4*a2)))=j_:=⟨_,rfl⟩
  replace H:((bf.f k (wrap64 ((ji7) - (ji8))) 1073741824 a1).bind fun t162=>(some t162))=some r:=by first|(rw [qN] at H;exact H)|(simp only [qN] at H ⊢;exact H)
  have asX:(if (wrap64 (a3*a1)) < (wrap64 (a4*a2)) then (wrap64 (a4*a2)) else (wrap64 (a3*a1)))=ji8:=qN
  replace H:=zO H
  obtain ⟨t162,A9,H⟩:=H
  try dsimp only at H
  obtain rfl:=Option.some.inj H
  go_enter Tryz.func129,Tryz.ntmps129
  go_wp2_with (first|((with_reducible refine ay (f:=130) rfl ?_);refine aH (some 35) rfl rfl Tryz.func130 (by kernel_rfl) rfl #[.int .i64 (wrap64 ((ji7) - (ji8))),.int .i64 1073741824,.int .i64 a1] rfl (by (try simp only [List.map_toArray,List.map_cons,List.map_nil]);first|done|(simp only [yc,qN];rfl)|rfl|(simp only [List.length_drop,List.length_take];rfl)) ?_;(with_reducible refine (bf.calls k (wrap64 ((ji7) - (ji8))) 1073741824 a1 t162 _ A9.out).mono ?_);rintro e w' ⟨rfl,⟨nd,rfl⟩⟩;refine ⟨_,rfl,?_⟩))
  go_ret
  exact ⟨by first|rfl|(simp [bH,bI] <;> rfl)|(simp only [← yc,← qN];first|rfl|(simp [bH,bI] <;> rfl))|(simp [*,bH,bI] <;> rfl),zB⟩
 ·rw [if_neg c6] at H
  have iw:(a0 == 0)=false:=beq_eq_false_iff_ne.mpr c6
  have vI:(a0 != 0)=true:=bne_iff_ne.mpr c6
  obtain ⟨dF,jU⟩:∃ j_:Int,(mx a1 a2)=j_:=⟨_,rfl⟩
  replace H:(if a0=1 then ((fP.f k (wrap64 ((wrap64 ((wrap64 ((wrap64 (2*a2))*a4)) - (wrap64 ((wrap64 ((wrap64 (2*a3))+1))*a1))))+a2)) (wrap64 (2*(dF)))).bind fun alY=>(some alY)) else ((eG.f k (wrap64 ((wrap64 ((wrap64 ((wrap64 (2*a2))*a4)) - (wrap64 ((wrap64 ((wrap64 (2*a3))+1))*a1))))+a2)) (wrap64 (2*(dF)))).bind fun t164=>(some t164)))=some r:=by first|(rw [jU] at H;exact H)|(simp only [jU] at H ⊢;exact H)
  have alR:(if a1 < a2 then a2 else a1)=dF:=jU
  by_cases c11:a0=1
  ·rw [if_pos c11] at H
   have iQ:(a0 == 1)=true:=beq_iff_eq.mpr c11
   have xH:(a0 != 1)=false:=bne_eq_false_iff_eq.mpr c11
   clear c11
   replace H:=zO H
   obtain ⟨alY,A12,H⟩:=H
   try dsimp only at H
   obtain rfl:=Option.some.inj H
   go_enter Tryz.func129,Tryz.ntmps129
   go_wp2_with (first|((with_reducible refine ay (f:=108) rfl ?_);refine aH (some 56) rfl rfl Tryz.func108 (by kernel_rfl) rfl #[.int .i64 (wrap64 ((wrap64 ((wrap64 ((wrap64 (2*a2))*a4)) - (wrap64 ((wrap64 ((wrap64 (2*a3))+1))*a1))))+a2)),.int .i64 (wrap64 (2*(dF)))] rfl (by (try simp only [List.map_toArray,List.map_cons,List.map_nil]);first|done|(simp only [jU];rfl)|(simp only [Int.tdiv_eq_ediv_of_nonneg hji10l];rfl)|rfl|(simp only [List.length_drop,List.length_take];rfl)) ?_;(with_reducible refine (fP.calls k (wrap64 ((wrap64 ((wrap64 ((wrap64 (2*a2))*a4)) - (wrap64 ((wrap64 ((wrap64 (2*a3))+1))*a1))))+a2)) (wrap64 (2*(dF))) alY _ A12.out).mono ?_);rintro e w13 ⟨rfl,hb⟩;refine ⟨_,rfl,?_⟩;replace HB:=aj.mk (ak zB hb);(try clear hb)))
   go_ret
   exact ⟨by first|rfl|(simp [bH,bI] <;> rfl)|(simp only [← jU];first|rfl|(simp [bH,bI] <;> rfl))|(simp [*,bH,bI] <;> rfl),zB⟩
  ·rw [if_neg c11] at H
   have iQ:(a0 == 1)=false:=beq_eq_false_iff_ne.mpr c11
   have xH:(a0 != 1)=true:=bne_iff_ne.mpr c11
   replace H:=zO H
   obtain ⟨t164,A14,H⟩:=H
   try dsimp only at H
   obtain rfl:=Option.some.inj H
   go_enter Tryz.func129,Tryz.ntmps129
   go_wp2_with (first|((with_reducible refine ay (f:=153) rfl ?_);refine aH (some 59) rfl rfl Tryz.func153 (by kernel_rfl) rfl #[.int .i64 (wrap64 ((wrap64 ((wrap64 ((wrap64 (2*a2))*a4)) - (wrap64 ((wrap64 ((wrap64 (2*a3))+1))*a1))))+a2)),.int .i64 (wrap64 (2*(dF)))] rfl (by (try simp only [List.map_toArray,List.map_cons,List.map_nil]);first|done|(simp only [jU];rfl)|(simp only [Int.tdiv_eq_ediv_of_nonneg hji10l];rfl)|rfl|(simp only [List.length_drop,List.length_take];rfl)) ?_;(with_reducible refine (eG.calls k (wrap64 ((wrap64 ((wrap64 ((wrap64 (2*a2))*a4)) - (wrap64 ((wrap64 ((wrap64 (2*a3))+1))*a1))))+a2)) (wrap64 (2*(dF))) t164 _ A14.out).mono ?_);rintro e w15 ⟨rfl,hb⟩;refine ⟨_,rfl,?_⟩;replace HB:=aj.mk (ak zB hb);(try clear hb)))
   go_ret
   exact ⟨by first|rfl|(simp [bH,bI] <;> rfl)|(simp only [← jU];first|rfl|(simp [bH,bI] <;> rfl))|(simp [*,bH,bI] <;> rfl),zB⟩
def iG.l0:Nat→Int→Int→Int→Int→Int→List Int→Int→Int→Option (Int × List Int)
 | 0,_,_,_,_,_,_,_,_=>none
 | k+1,x0,x1,x2,x3,x8,x9,x20,x21=>if x21 < x20 then ((oz.f k x0 x1 x2 x3 (wrap64 (x8+x21))).bind fun t167=>(if x9.length < 17592186044416 then (iG.l0 k x0 x1 x2 x3 x8 (x9 ++ [t167]) x20 (wrap64 (x21+1))) else (none))) else (some (x8,x9))
def iG.f (k:Nat) (a0 a1 a2 a3:Int):Option (Int × List Int):=(lG.f k a0 a1 a2 a3).bind fun as3=>(iG.l0 k a0 a1 a2 a3 as3.1 ([]:List Int) as3.2 0)
theorem iG.jd:∀ k,(∀ y0 y1 y2 y3 y4 y5 y6 y7,LeO (iG.l0 k y0 y1 y2 y3 y4 y5 y6 y7) (iG.l0 (k+1) y0 y1 y2 y3 y4 y5 y6 y7))
 | 0=>fun _ _ _ _ _ _ _ _ r h=>by simp [iG.l0] at h
 | k+1=>by
  have ih0:=iG.jd k
  ·intro y0 y1 y2 y3 y4 y5 y6 y7
   unfold iG.l0
   repeat' (with_reducible first|exact ih0 _ _ _ _ _ _ _ _|exact lG.mono _ _ _ _ _|exact oz.mono _ _ _ _ _ _|exact zM|refine LeO.ite ?_ ?_|refine LeO.bind ?_ (fun _ => ?_))
theorem iG.mono:∀ a0 a1 a2 a3 k,LeO (iG.f k a0 a1 a2 a3) (iG.f (k+1) a0 a1 a2 a3):=by
 intro a0 a1 a2 a3 k
 have ih0:=iG.jd k
 unfold iG.f
 repeat' (with_reducible first|exact ih0 _ _ _ _ _ _ _ _|exact lG.mono _ _ _ _ _|exact oz.mono _ _ _ _ _ _|exact zM|refine LeO.ite ?_ ?_|refine LeO.bind ?_ (fun _ => ?_))
set_option maxHeartbeats 8000000 in
set_option maxRecDepth 100000 in
theorem iG.calls (k:Nat) (a0 a1 a2 a3 r1:Int) (r2:List Int) (w:World) (hG:GL w) (h:iG.f k a0 a1 a2 a3=some (r1,r2)) :
  Calls Tryz.prog 107 #[.int .i64 a0,.int .i64 a1,.int .i64 a2,.int .i64 a3] w fun e w'=>∃ v1_:Value,e = .returned (.tuple #[.int .i64 r1,v1_])∧Kd.R (Kd.int .i64) 2 w' w.heap.size (fun _=>True) v1_ r2∧Below w.heap.size w w':=by
 have HB:=aj.mk (Below.refl w.heap.size w)
 have H:=h
 clear h
 unfold iG.f at H
 replace H:=zO H
 obtain ⟨⟨alZ,aon⟩,A5,H⟩:=H
 try dsimp only at H
 have H':=aj.mk H
 clear H
 go_enter Tryz.func107,Tryz.ntmps107
 go_wp2_with (first|((with_reducible refine ay (f:=128) rfl ?_);refine aH (some 17) rfl rfl Tryz.func128 (by kernel_rfl) rfl #[.int .i64 a0,.int .i64 a1,.int .i64 a2,.int .i64 a3] rfl zL ?_;(with_reducible refine (lG.calls k a0 a1 a2 a3 alZ aon _ (by exact GL.below hG (by repeat (first|(with_reducible first|exact HB.out|apply aT|apply aI|apply aZ)|exact HB.out|exact Below.refl _ _))) A5.out).mono ?_);rintro e w6 ⟨rfl,hb⟩;refine ⟨_,rfl,?_⟩;replace HB:=aj.mk (ak zB hb);(try clear hb)))
 go_loopg [9,21] k (fun kq v9 v21 w'=>∃ (uy:List Int) (wQ:Int),v21 = .int .i64 wQ∧aj (iG.l0 kq a0 a1 a2 a3 alZ uy aon wQ=some (r1,r2))∧aj (kq≤k)∧aj (Kd.R (Kd.int .i64) 2 w' w.heap.size (fun _=>True) v9 uy)∧aj (Below w.heap.size w w'))
 case atStart=>exact ⟨(([]:List Int)),(0),zT,H',⟨Nat.le_refl _⟩,⟨by first|exact Kd.jW _ _ _ _ _|exact Kd.qj _ _ _ _ _|exact Kd.oH _ _ _ _ _|exact Kd.qm _ _ _ _ _|exact Kd.pJ _ _ _ _ _⟩,⟨zB⟩⟩
 case round =>
  clear H'
  obtain ⟨uy,wQ,rfl,HA,HK1,aoo,HB⟩:=hrel
  cases gk with
  | zero=>exact absurd HA.out (by simp [iG.l0])
  | succ k1 =>
   have H:=HA.out
   clear HA
   simp only [iG.l0] at H
   by_cases c7:wQ < aon
   ·rw [if_pos c7] at H
    have jf:=decide_eq_true c7
    clear c7
    replace H:=zO H
    obtain ⟨t167,A8,H⟩:=H
    try dsimp only at H
    by_cases c9:uy.length < 17592186044416
    ·rw [if_pos c9] at H
     have azf:=aj.mk c9
     clear c9
     obtain ⟨y168,hy168⟩:∃ y_:List Int,y_=(uy ++ [t167]):=⟨_,rfl⟩
     replace H:(iG.l0 k1 a0 a1 a2 a3 alZ y168 aon (wrap64 (wQ+1)))=some (r1,r2):=by first|(rw [hy168];with_reducible exact H)|(have H2_:=(Option.bind_some _ _).symm.trans H;rw [hy168];with_reducible exact H2_)|(have H2_:=(Option.bind_some _ _).symm.trans H;with_reducible exact H2_)|with_reducible exact H|(rw [hy168];exact H)|exact H
     have aw7:=aj.mk hy168
     clear hy168
     have H':=aj.mk H
     clear H
     go_wp2_with (first|((with_reducible refine ay (f:=129) rfl ?_);refine aH (some 32) rfl rfl Tryz.func129 (by kernel_rfl) rfl #[.int .i64 a0,.int .i64 a1,.int .i64 a2,.int .i64 a3,.int .i64 (wrap64 (alZ+wQ))] rfl zL ?_;(with_reducible refine (oz.calls k1 a0 a1 a2 a3 (wrap64 (alZ+wQ)) t167 _ A8.out).mono ?_);rintro e w10 ⟨rfl,hb⟩;refine ⟨_,rfl,?_⟩;obtain ⟨aoo,HB⟩:=zA2 (Kd.ji (by (with_reducible repeat (first|apply Kd.aK|apply Kd.aQ|apply Kd.aW));exact aoo.out) hb) (ak zB hb);(try clear hb))|((with_reducible refine jP (b := .append) (xs := #[.tmp 24,.tmp 33]) rfl ?_);at_builtin;refine Kd.kS (Kd.int .i64) (w0:=w) w.heap.size rfl (.tmp 24) (.tmp 33) 44 2 (.int .i64 0) 8 rfl Tryz.underlying44 wK rfl (by decide) (by omega) u9 uy t167 [.int .i64 t167] (fun _=>True) (fun _=>False) rfl rfl ?aP (fun _ hk=>hk.elim) ?aF ?aO ?aB ?aS ?aL ?_;(case aP=>exact rfl);(case aB=>exact zB);(case aF=>exact (fun _ _=>trivial));(case aO=>exact (by (with_reducible repeat (first|apply Kd.aK|apply Kd.aQ|apply Kd.aW));exact aoo.out));(case aS=>exact (bP zB));(case aL=>have:=azf.out;omega);intro aEk w11 ho hb hg hat;rw [← aw7.out] at ho;obtain ⟨HB,aw8⟩:=zA2 hb ho;clear ho hb hg hat))
     go_roundg k1
     case measure=>have:=HK1.out;omega
     case rel=>exact ⟨(y168),(wrap64 (wQ+1)),zT,H',⟨by have:=HK1.out;omega⟩,⟨by (with_reducible repeat (first|apply Kd.aK|apply Kd.aQ|apply Kd.aW));exact aw8.out⟩,⟨zB⟩⟩
    ·rw [if_neg c9] at H
     exact absurd H (by simp)
   ·rw [if_neg c7] at H
    have jf:=decide_eq_false c7
    clear c7
    simp only [Option.some.injEq,Prod.mk.injEq] at H
    obtain ⟨rfl,rfl⟩:=H
    go_wp2
    go_ret2
    exact ⟨_,zS,by (with_reducible repeat (first|apply Kd.aK|apply Kd.aQ|apply Kd.aW));exact aoo.out,zB⟩
end Go.Proofs.YtpondkggmcmpfaaGreatDoor.QA
namespace Go.Proofs.YtpondkggmcmpfaaGreatDoor.QA
open Go.Proofs.YtpondkggmcmpfaaGreatDoor.T
open Go.RowKit Go.Proofs.YtpondkggmcmpfaaGreatDoorW.PrintWords Go.Proofs.YtpondkggmcmpfaaGreatDoorW.PrintLast Go.Proofs.YtpondkggmcmpfaaGreatDoorW.PrintMore
attribute [local go_sem] dV dP dQ fC fD
set_option linter.unusedVariables false
set_option linter.unusedSimpArgs false
def jC.j0:Nat→Int→Int→Bool→Option (Int)
 | 0,_,_,_=>none
 | k+1,x0,x1,x11=>if x11=true then (some 0) else (if x1=0 then (none) else (if (Int.tmod x0 x1)=0 then (some (Int.tmod x0 x1)) else (if ((decide ((Int.tmod x0 x1) < 0)) != (decide (x1 < 0)))=true then (some (wrap64 ((Int.tmod x0 x1)+x1))) else (some (Int.tmod x0 x1)))))
def jC.f (k:Nat) (a0 a1:Int):Option (Int):=if a1=0 then (jC.j0 k a0 a1 true) else (jC.j0 k a0 a1 (a1 == (-1)))
set_option maxHeartbeats 8000000 in
set_option maxRecDepth 100000 in
theorem jC.calls (k:Nat) (a0 a1 r:Int) (w:World) (h:jC.f k a0 a1=some r) :
  Calls Tryz.prog 103 #[.int .i64 a0,.int .i64 a1] w fun e w'=>e = .returned (.int .i64 r)∧cO w w':=by
 have H:=h
 clear h
 unfold jC.f at H
 have HC3:=aj.mk H
 clear H
 go_enter Tryz.func103,Tryz.ntmps103
 go_upto_region 1 with (fail)
 go_cut [11] (fun v11 wc=>∃ (kq:Nat) (akq:Bool),v11 = .bool akq∧aj (jC.j0 kq a0 a1 akq=some r)∧aj (kq≤k)∧cO w wc)
 case first =>
  have H:=HC3.out
  clear HC3
  by_cases c4:a1=0
  ·rw [if_pos c4] at H
   have fB:(a1 == 0)=true:=beq_iff_eq.mpr c4
   have aaI:(a1 != 0)=false:=bne_eq_false_iff_eq.mpr c4
   clear c4
   (first|rw [fB]|(simp only [bY,dw];rw [fB])|skip)
   have H':=aj.mk H
   clear H
   go_wp2
   go_meet
   case rel=>exact ⟨_,(true),zT,H',⟨by first|omega|exact Nat.le_refl _⟩,zW⟩
  ·rw [if_neg c4] at H
   have fB:(a1 == 0)=false:=beq_eq_false_iff_ne.mpr c4
   have aaI:(a1 != 0)=true:=bne_iff_ne.mpr c4
   (first|rw [fB]|(simp only [bY,dw];rw [fB])|skip)
   have H':=aj.mk H
   clear H
   go_wp2
   go_meet
   case rel=>exact ⟨_,((a1 == (-1))),zT,H',⟨by first|omega|exact Nat.le_refl _⟩,zW⟩
 case rest =>
  clear HC3
  obtain ⟨kq,akq,rfl,HA,HJ2,⟨mc2,rfl⟩⟩:=hcut
  cases kq with
  | zero=>exact absurd HA.out (by simp [jC.j0])
  | succ kj2 =>
   have H:=HA.out
   clear HA
   simp only [jC.j0] at H
   by_cases c5:akq=true
   ·subst c5
    rw [if_pos rfl] at H;try dsimp only at H
    obtain rfl:=Option.some.inj H
    go_wp2
    go_ret
    exact ⟨zT,zW⟩
   ·replace c5:=Bool.eq_false_iff.mpr c5
    subst c5
    rw [if_neg (show ¬ (false=true) by decide)] at H;try dsimp only at H
    by_cases c6:a1=0
    ·rw [if_pos c6] at H
     exact absurd H (by simp)
    ·rw [if_neg c6] at H
     have iw:(a1 == 0)=false:=beq_eq_false_iff_ne.mpr c6
     have vI:(a1 != 0)=true:=bne_iff_ne.mpr c6
     by_cases c7:(Int.tmod a0 a1)=0
     ·rw [if_pos c7] at H
      have jf:((Int.tmod a0 a1) == 0)=true:=beq_iff_eq.mpr c7
      have aar:((Int.tmod a0 a1) != 0)=false:=bne_eq_false_iff_eq.mpr c7
      clear c7
      obtain rfl:=Option.some.inj H
      go_wp2
      go_ret
      exact ⟨zT,zW⟩
     ·rw [if_neg c7] at H
      have jf:((Int.tmod a0 a1) == 0)=false:=beq_eq_false_iff_ne.mpr c7
      have aar:((Int.tmod a0 a1) != 0)=true:=bne_iff_ne.mpr c7
      by_cases c8:((decide ((Int.tmod a0 a1) < 0)) != (decide (a1 < 0)))=true
      ·rw [if_pos c8] at H
       have um:((decide ((Int.tmod a0 a1) < 0)) != (decide (a1 < 0)))=true:=c8
       (try (have aas:decide ((decide ((Int.tmod a0 a1) < 0))=(decide (a1 < 0)))=false:=by simpa using c8))
       (try (have azg:((decide ((Int.tmod a0 a1) < 0)) == (decide (a1 < 0)))=false:=by simpa using c8))
       (try (have aEl:¬ ((decide ((Int.tmod a0 a1) < 0))=(decide (a1 < 0))):=by simpa using c8))
       clear c8
       obtain rfl:=Option.some.inj H
       go_wp2
       go_ret
       exact ⟨zT,zW⟩
      ·rw [if_neg c8] at H
       have um:((decide ((Int.tmod a0 a1) < 0)) != (decide (a1 < 0)))=false:=by simpa using c8
       (try (have aas:decide ((decide ((Int.tmod a0 a1) < 0))=(decide (a1 < 0)))=true:=by simpa using c8))
       (try (have azg:((decide ((Int.tmod a0 a1) < 0)) == (decide (a1 < 0)))=true:=by simpa using c8))
       clear c8
       obtain rfl:=Option.some.inj H
       go_wp2
       go_ret
       exact ⟨zT,zW⟩
def lq.j0:Nat→Int→Int→Int→Bool→Option (Int)
 | 0,_,_,_,_=>none
 | k+1,x0,x1,x5,x9=>if x9=true then (some 9223372036854775807) else (if x1 < 0 then (if x5 > x0 then (some (-9223372036854775808)) else (some x5)) else (some x5))
def lq.f (k:Nat) (a0 a1:Int):Option (Int):=if a1 > 0 then (lq.j0 k a0 a1 (wrap64 (a0+a1)) (decide ((wrap64 (a0+a1)) < a0))) else (lq.j0 k a0 a1 (wrap64 (a0+a1)) false)
set_option maxHeartbeats 8000000 in
set_option maxRecDepth 100000 in
theorem lq.calls (k:Nat) (a0 a1 r:Int) (w:World) (h:lq.f k a0 a1=some r) :
  Calls Tryz.prog 162 #[.int .i64 a0,.int .i64 a1] w fun e w'=>e = .returned (.int .i64 r)∧cO w w':=by
 have H:=h
 clear h
 unfold lq.f at H
 have HC3:=aj.mk H
 clear H
 go_enter Tryz.func162,Tryz.ntmps162
 go_upto_region 2 with (fail)
 go_cut [9] (fun v9 wc=>∃ (kq:Nat) (abq:Bool),v9 = .bool abq∧aj (lq.j0 kq a0 a1 (wrap64 (a0+a1)) abq=some r)∧aj (kq≤k)∧cO w wc)
 case first =>
  have H:=HC3.out
  clear HC3
  by_cases c4:a1 > 0
  ·rw [if_pos c4] at H
   have fB:=decide_eq_true c4
   clear c4
   (first|rw [fB]|(simp only [bY,dw];rw [fB])|skip)
   have H':=aj.mk H
   clear H
   go_wp2
   go_meet
   case rel=>exact ⟨_,(decide ((wrap64 (a0+a1)) < a0)),zT,H',⟨by first|omega|exact Nat.le_refl _⟩,zW⟩
  ·rw [if_neg c4] at H
   have fB:=decide_eq_false c4
   clear c4
   (first|rw [fB]|(simp only [bY,dw];rw [fB])|skip)
   have H':=aj.mk H
   clear H
   go_wp2
   go_meet
   case rel=>exact ⟨_,(false),zT,H',⟨by first|omega|exact Nat.le_refl _⟩,zW⟩
 case rest =>
  clear HC3
  obtain ⟨kq,abq,rfl,HA,HJ2,⟨mc2,rfl⟩⟩:=hcut
  cases kq with
  | zero=>exact absurd HA.out (by simp [lq.j0])
  | succ kj2 =>
   have H:=HA.out
   clear HA
   simp only [lq.j0] at H
   by_cases c5:abq=true
   ·subst c5
    rw [if_pos rfl] at H;try dsimp only at H
    obtain rfl:=Option.some.inj H
    go_wp2
    go_ret
    exact ⟨zT,zW⟩
   ·replace c5:=Bool.eq_false_iff.mpr c5
    subst c5
    rw [if_neg (show ¬ (false=true) by decide)] at H;try dsimp only at H
    by_cases c6:a1 < 0
    ·rw [if_pos c6] at H
     have iw:=decide_eq_true c6
     clear c6
     by_cases c7:(wrap64 (a0+a1)) > a0
     ·rw [if_pos c7] at H
      have jf:=decide_eq_true c7
      clear c7
      obtain rfl:=Option.some.inj H
      go_wp2
      go_ret
      exact ⟨zT,zW⟩
     ·rw [if_neg c7] at H
      have jf:=decide_eq_false c7
      clear c7
      obtain rfl:=Option.some.inj H
      go_wp2
      go_ret
      exact ⟨zT,zW⟩
    ·rw [if_neg c6] at H
     have iw:=decide_eq_false c6
     clear c6
     obtain rfl:=Option.some.inj H
     go_wp2
     go_ret
     exact ⟨zT,zW⟩
def nT.l0:Nat→Int→List Int→Int→Int→Option (Int)
 | 0,_,_,_,_=>none
 | k+1,x3,x6,x7,x8=>if x8 < x7 then (if 0≤x8 then (if x8 < (x6.length:Int) then ((lq.f k x3 (rd x6 x8)).bind fun aop=>(nT.l0 k aop x6 x7 (wrap64 (x8+1)))) else (none)) else (none)) else (some x3)
def nT.f (k:Nat) (l0:List Int):Option (Int):=nT.l0 k 0 l0 (l0.length:Int) 0
set_option maxHeartbeats 8000000 in
set_option maxRecDepth 100000 in
theorem nT.calls (k:Nat) (A0:Option Addr) (c0:Nat) (l0:List Int) (r:Int) (w:World) (hr0:Kd.C (Kd.int .i64) w A0 l0.length l0) (hc0:l0.length≤c0) (h:nT.f k l0=some r) :
  Calls Tryz.prog 132 #[.slice A0 l0.length c0] w fun e w'=>e = .returned (.int .i64 r)∧cO w w':=by
 have HR0:=aj.mk hr0
 have HC0:=aj.mk hc0
 clear hr0 hc0
 have H:=h
 clear h
 unfold nT.f at H
 have H':=aj.mk H
 clear H
 go_enter Tryz.func132,Tryz.ntmps132
 go_wp2
 go_loopg [3,8] k (fun kq v3 v8 w'=>∃ (oM:Int) (iy:Int),v3 = .int .i64 oM∧v8 = .int .i64 iy∧aj (nT.l0 kq oM l0 (l0.length:Int) iy=some r)∧aj (kq≤k)∧cO w w')
 case atStart=>exact ⟨(0),(0),zT,zT,H',⟨Nat.le_refl _⟩,zW⟩
 case round =>
  clear H'
  obtain ⟨oM,iy,rfl,rfl,HA,HK1,⟨m1,rfl⟩⟩:=hrel
  cases gk with
  | zero=>exact absurd HA.out (by simp [nT.l0])
  | succ k1 =>
   have H:=HA.out
   clear HA
   simp only [nT.l0] at H
   by_cases c2:iy < (l0.length:Int)
   ·rw [if_pos c2] at H
    have nD:=decide_eq_true c2
    clear c2
    by_cases c3:0≤iy
    ·rw [if_pos c3] at H
     have fQ:=decide_eq_true c3
     clear c3
     by_cases c4:iy < (l0.length:Int)
     ·rw [if_pos c4] at H
      have fB:=decide_eq_true c4
      clear c4
      replace H:=zO H
      obtain ⟨aop,A5,H⟩:=H
      try dsimp only at H
      have H':=aj.mk H
      clear H
      have arH:0≤(iy:Int):=of_decide_eq_true (by first|(with_reducible assumption)|assumption)
      have arI:iy < (l0.length:Int):=of_decide_eq_true (by first|(with_reducible assumption)|assumption)
      obtain ⟨aCR,azh,az5⟩:=Kd.iI HR0.out iy arH arI
      cases azh
      replace arH:=eq_true arH
      replace arI:=eq_true arI
      go_wp2_with (first|((with_reducible refine ay (f:=162) rfl ?_);refine aH (some 14) rfl rfl Tryz.func162 (by kernel_rfl) rfl #[.int .i64 oM,.int .i64 (rd l0 iy)] rfl zL ?_;(with_reducible refine (lq.calls k1 oM (rd l0 iy) aop _ A5.out).mono ?_);rintro e w' ⟨rfl,⟨nd,rfl⟩⟩;refine ⟨_,rfl,?_⟩))
      go_roundg k1
      case measure=>have:=HK1.out;omega
      case rel=>exact ⟨(aop),(wrap64 (iy+1)),zT,zT,H',⟨by have:=HK1.out;omega⟩,zW⟩
     ·rw [if_neg c4] at H
      exact absurd H (by simp)
    ·rw [if_neg c3] at H
     exact absurd H (by simp)
   ·rw [if_neg c2] at H
    have nD:=decide_eq_false c2
    clear c2
    obtain rfl:=Option.some.inj H
    go_wp2
    go_ret
    exact ⟨zT,zW⟩
end Go.Proofs.YtpondkggmcmpfaaGreatDoor.QA
