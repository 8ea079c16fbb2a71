/- Joined by wip/tools/bundle.py out of: TZr. -/
import Derived.Test.YtpondkggmcmpfaaGreatDoorBPlanCovers1
import Derived.Test.YtpondkggmcmpfaaGreatDoorBPlanCovers9
import Derived.Test.YtpondkggmcmpfaaGreatDoorBPlanCovers7
import Derived.Test.YtpondkggmcmpfaaGreatDoorBPlanCovers14
import Derived.Handy
import Derived.Lib.SliceRun
import Derived.Test.YtpondkggmcmpfaaGreatDoorBPlanCovers0
import Derived.Test.YtpondkggmcmpfaaGreatDoorBPlanCovers8
import Derived.Test.YtpondkggmcmpfaaGreatDoorBPlanCovers10
import Derived.Test.YtpondkggmcmpfaaGreatDoorBPlanCovers11
import Derived.Test.YtpondkggmcmpfaaGreatDoorBPlanCovers15
import Derived.Test.YtpondkggmcmpfaaGreatDoorBPlanCovers16
namespace Go.Proofs.YtpondkggmcmpfaaGreatDoor.QA
open Go.RowKit Go.Proofs.YtpondkggmcmpfaaGreatDoorW.PrintWords Go.Proofs.YtpondkggmcmpfaaGreatDoorW.PrintLast Go.Proofs.YtpondkggmcmpfaaGreatDoorW.PrintMore Go.Proofs.YtpondkggmcmpfaaGreatDoor.T
set_option linter.unusedVariables false
set_option linter.unusedSimpArgs false
set_option maxHeartbeats 8000000 in
set_option maxRecDepth 100000 in
theorem ahS (b s r:Int) (A4:Option Addr) (p c4:Nat) (A5:Option Addr) (q c5:Nat) (f ow oh W H:Int) (o:S47) (w:World) (h3:¬ b < 0) (h4:¬ 2 < b) (h5:bC.f W=some true) (h6:bC.f H=some true)
    (h7:bC.f ow=some true) (h8:bC.f oh=some true) (h9:¬ f < 0) (h10:¬ 2 < f) (hbd:o.f1=b) (c1 c2:Int) (tx ty:Tab) (l1 l2:List mG) (K1 K2:Nat) (x1:bU.f K1 f W ow=some (l1,c1)) (x2:bU.f K2 f H oh=some (l2,c2)) (hl1:c1=0→l1=tx.lines.map toR) (hl2:c2=0→l2=ty.lines.map toR)
    (hC:je o W H=if c1=0 then c2 else c1) (hX:nR o W=tx) (hY:nS o H=ty) :
    Calls Tryz.prog 57 #[opV 3 b s r A4 p c4 A5 q c5 f ow oh,.int .i64 W,.int .i64 H] w (aay o W H w):=by
  have HC:=aj.mk hC
  obtain ⟨W2,g,e2,hg,h1,h2,hb2,hz⟩:=aam (w:=w) (v0 := .int .i64 3) (v1 := .int .i64 b) (v2 := .int .i64 s) (v3 := .int .i64 r) (v4 := .slice A4 p c4) (v5 := .slice A5 q c5) (v6 := .int .i64 f) (v7 := .int .i64 ow) (v8 := .int .i64 oh)
  have HG1:=aj.mk (show w.heap.size≤g+1 by omega)
  have mixed:Tryz.prog.follows .mixedOrders=true:=by kernel_rfl
  have E2:=aj.mk e2
  have BQ:=aj.mk hb2
  have HG:=aj.mk hg
  have H1:=aj.mk h1
  have H2:=aj.mk h2
  have HS:=aj.mk hz
  have HX:=aj.mk (And.intro hX (And.intro hY hbd))
  clear hC e2 hb2 hg h1 h2 hz hX hY hbd
  unfold opV
  go_enter Tryz.func57,Tryz.ntmps57
  go_upto_region 1 with fail
  rw [← HG.out,← E2.out]
  clear HG E2
  have hz:=HS.out
  obtain ⟨z0,z1,z2,z3,z4,z5,z6,z7,z8⟩:=cells9 H1.out
  go_upto_region 5 with (first
    | (go_at_call 92;(with_reducible refine (bC.calls W true _ h5).mono ?_);rintro e w' ⟨rfl,⟨nd,rfl⟩⟩)
    | (go_at_call 92;(with_reducible refine (bC.calls H true _ h6).mono ?_);rintro e w' ⟨rfl,⟨nd2,rfl⟩⟩))
  obtain ⟨w4,e4,hb4,hB4⟩:=adf (w1:=W2.drewN (nd+nd2)) H1.out H2.out (aI BQ.out _) HS.out (.slice none 0 0) (.slice none 0 0) (.int .i64 W) (.int .i64 H) (.int .i64 b)
  rw [e4]
  clear z0 z1 z2 z3 z4 z5 z6 z7 z8 e4 H1 H2 BQ hz HS h5 h6
  have B4:=aj.mk hb4
  have K4:=aj.mk hB4
  clear hb4
  obtain ⟨z0,z1,z2,z3,z4,z5,z6,z7,z8⟩:=cells9 hB4.1
  clear hB4
  go_upto_region 8 with (first
    | (go_at_call 92;(with_reducible refine (bC.calls ow true _ h7).mono ?_);rintro e w' ⟨rfl,⟨nd3,rfl⟩⟩)
    | (go_at_call 92;(with_reducible refine (bC.calls oh true _ h8).mono ?_);rintro e w' ⟨rfl,⟨nd4,rfl⟩⟩))
  have B5:=aj.mk (aI B4.out (nd3+nd4))
  have hB5:yS (w4.drewN (nd3+nd4)) g _ _:=K4.out
  clear z0 z1 z2 z3 z4 z5 z6 z7 z8 h3 h4 h7 h8 h9 h10 B4 K4
  generalize w4.drewN (nd3+nd4)=w5 at hB5 B5 ⊢
  have K5:=aj.mk hB5
  have L5:=aj.mk (show g+2 < _ from dJ hB5.2.2)
  obtain ⟨z0,z1,z2,z3,z4,z5,z6,z7,z8⟩:=cells9 hB5.1
  clear hB5
  have k1n:c1≠0→(c1 != 0)=true:=fun h=>by simpa using h
  have RS1:=aj.mk (fun w'=>bU.calls K1 f W ow l1 c1 w' x1)
  have RS2:=aj.mk (fun w'=>bU.calls K2 f H oh l2 c2 w' x2)
  have HL:=aj.mk (And.intro hl1 hl2)
  have HN1:=aj.mk k1n
  clear x1 x2 hl1 hl2 k1n
  go_upto_region 9 with (go_at_call 93;(with_reducible refine (RS1.out _).mono ?_);rintro e w6 ⟨_,rfl,hr,hb⟩;obtain ⟨A6,c6,rfl⟩:=Kd.gB (Kd.S_R hr);have B6:=aj.mk (ak B5.out hb);have K6:=aj.mk (K5.out.below hb);have R6:=aj.mk (mP.of (Kd.S_R hr));have D6:=aj.mk hb;have fz:=aN K6.out.2.2 0;have yz:w6.cell? ⟨g+2,0,none⟩=some (.slice none 0 0):=(au K6.out.2.2 0).trans rfl;clear hr hb)
  clear fz yz z0 z1 z2 z3 z4 z5 z6 z7 z8
  have B7:=aj.mk (B6.out.setCell (p:=⟨g+2,0,none⟩) (Nat.le_succ_of_le HG1.out) (.slice A6 l1.length c6))
  have hK7:yS (w6.setCell ⟨g+2,0,none⟩ (.slice A6 l1.length c6)) g #[.int .i64 3,.int .i64 b,.int .i64 s,.int .i64 r,.slice A4 p c4,.slice A5 q c5,.int .i64 f,.int .i64 ow,.int .i64 oh] #[.slice A6 l1.length c6,.slice none 0 0,.int .i64 W,.int .i64 H,.int .i64 b]:=by simpa using K6.out.put 0 (.slice A6 l1.length c6)
  have R7:=aj.mk (R6.out.far (i:=0) (u:=(.slice A6 l1.length c6)) L5.out)
  have S7:=aj.mk (show w5.heap.size≤(w6.setCell ⟨g+2,0,none⟩ (.slice A6 l1.length c6)).heap.size by have:=D6.out.size;simpa [World.setCell] using this)
  clear B6 K6 R6 D6
  generalize w6.setCell ⟨g+2,0,none⟩ (.slice A6 l1.length c6)=w7 at hK7 B7 R7 S7 ⊢
  have K7:=aj.mk hK7
  have L7:=aj.mk (show g+2 < _ from dJ hK7.2.2)
  obtain ⟨z0,z1,z2,z3,z4,z5,z6,z7,z8⟩:=cells9 hK7.1
  clear hK7
  by_cases k1:c1=0
  rotate_left
  · rw [if_neg k1] at HC
    have KC:=aj.mk k1
    have k3:=HN1.out k1
    clear k1
    clear z0 z1 z2 z3 z4 z5 z6 z7 z8
    obtain ⟨q0,q1,q2,q3,q4⟩:=cells5 K7.out.2.1
    obtain ⟨f0,f1,f2,f3,f4⟩:=qX K7.out.2.1
    go_wp2
    clear q0 q1 q2 q3 q4 f0 f1 f2 f3 f4
    obtain ⟨w20,e20,p0,p1,p2,p3,p4,B20,-⟩:=rV (w1:=w7) K7.out B7.out HG1.out (.slice none 0 0) (.slice none 0 0) (.int .i64 0) (.int .i64 0) (.int .i64 0)
    rw [e20]
    refine bodyPost_ret (by simp [results,Tryz.results57,go_sem,p0,p1,p2,p3,p4];try rfl) rfl ?_
    exact xR HC.out KC.out B20
  rw [if_pos k1] at HC
  have HL1:=aj.mk (HL.out.1 k1)
  subst k1
  go_upto_region 12 with (go_at_call 93;(with_reducible refine (RS2.out _).mono ?_);rintro e w8 ⟨_,rfl,hr,hb⟩;obtain ⟨A8,c8,rfl⟩:=Kd.gB (Kd.S_R hr);have B8:=aj.mk (ak B7.out hb);have K8:=aj.mk (K7.out.below hb);have R8:=aj.mk (mP.of (Kd.S_R hr));have D8:=aj.mk hb;have fz:=aN K8.out.2.2 1;have yz:w8.cell? ⟨g+2,1,none⟩=some (.slice none 0 0):=(au K8.out.2.2 1).trans rfl;clear hr hb)
  clear fz yz z0 z1 z2 z3 z4 z5 z6 z7 z8
  have B9:=aj.mk (B8.out.setCell (p:=⟨g+2,1,none⟩) (Nat.le_succ_of_le HG1.out) (.slice A8 l2.length c8))
  have hK9:yS (w8.setCell ⟨g+2,1,none⟩ (.slice A8 l2.length c8)) g #[.int .i64 3,.int .i64 b,.int .i64 s,.int .i64 r,.slice A4 p c4,.slice A5 q c5,.int .i64 f,.int .i64 ow,.int .i64 oh] #[.slice A6 l1.length c6,.slice A8 l2.length c8,.int .i64 W,.int .i64 H,.int .i64 b]:=by simpa using K8.out.put 1 (.slice A8 l2.length c8)
  have R9:=aj.mk (R8.out.far (i:=1) (u:=(.slice A8 l2.length c8)) L7.out)
  have Q9:=aj.mk (((R7.out.below D8.out).far (i:=1) (u:=(.slice A8 l2.length c8)) L5.out))
  clear B8 K8 R8 D8 R7
  generalize w8.setCell ⟨g+2,1,none⟩ (.slice A8 l2.length c8)=w9 at hK9 B9 R9 Q9 ⊢
  have K9:=aj.mk hK9
  obtain ⟨z0,z1,z2,z3,z4,z5,z6,z7,z8⟩:=cells9 hK9.1
  clear hK9
  by_cases k2:c2=0
  rotate_left
  · have KC:=aj.mk k2
    have k3:(c2 != 0)=true:=by simpa using k2
    clear k2
    clear z0 z1 z2 z3 z4 z5 z6 z7 z8
    obtain ⟨q0,q1,q2,q3,q4⟩:=cells5 K9.out.2.1
    obtain ⟨f0,f1,f2,f3,f4⟩:=qX K9.out.2.1
    go_wp2
    clear q0 q1 q2 q3 q4 f0 f1 f2 f3 f4
    obtain ⟨w20,e20,p0,p1,p2,p3,p4,B20,-⟩:=rV (w1:=w9) K9.out B9.out HG1.out (.slice none 0 0) (.slice none 0 0) (.int .i64 0) (.int .i64 0) (.int .i64 0)
    rw [e20]
    refine bodyPost_ret (by simp [results,Tryz.results57,go_sem,p0,p1,p2,p3,p4];try rfl) rfl ?_
    exact xR HC.out KC.out B20
  have HL2:=aj.mk (HL.out.2 k2)
  subst k2
  clear z0 z1 z2 z3 z4 z5 z6 z7 z8
  obtain ⟨y0,y1,y2,y3,y4⟩:=cells5 K9.out.2.2
  obtain ⟨q0,q1,q2,q3,q4⟩:=cells5 K9.out.2.1
  obtain ⟨f0,f1,f2,f3,f4⟩:=qX K9.out.2.1
  go_wp2
  clear q0 q1 q2 q3 q4 f0 f1 f2 f3 f4 y0 y1 y2 y3 y4
  obtain ⟨w20,e20,p0,p1,p2,p3,p4,B20,R20⟩:=rV (w1:=w9) K9.out B9.out HG1.out (.slice A6 l1.length c6) (.slice A8 l2.length c8) (.int .i64 W) (.int .i64 H) (.int .i64 b)
  rw [e20]
  refine bodyPost_ret (by simp [results,Tryz.results57,go_sem,p0,p1,p2,p3,p4];try rfl) rfl ?_
  have hz5:w.heap.size≤w5.heap.size:=by have:=L5.out;have:=HG1.out;omega
  have hz7:w.heap.size≤w7.heap.size:=by have:=L7.out;have:=HG1.out;omega
  have r1:mP w20 w.heap.size (.slice A6 l1.length c6) (tx.lines.map toR):=by rw [← HL1.out];exact (R20 _ _ _ (by have:=L5.out;omega) Q9.out).lower hz5
  have r2:mP w20 w.heap.size (.slice A8 l2.length c8) (ty.lines.map toR):=by rw [← HL2.out];exact (R20 _ _ _ (by have:=L7.out;omega) R9.out).lower hz7
  exact air HC.out HX.out.1 HX.out.2.1 HX.out.2.2 B20 r1 r2
end Go.Proofs.YtpondkggmcmpfaaGreatDoor.QA
