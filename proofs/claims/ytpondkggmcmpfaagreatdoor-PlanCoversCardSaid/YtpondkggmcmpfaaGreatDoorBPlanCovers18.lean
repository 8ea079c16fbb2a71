/- Joined by wip/tools/bundle.py out of: TZf. -/
import Derived.Test.YtpondkggmcmpfaaGreatDoorBPlanCovers1
import Derived.Test.YtpondkggmcmpfaaGreatDoorBPlanCovers9
import Derived.Test.YtpondkggmcmpfaaGreatDoorBPlanCovers7
import Derived.Test.YtpondkggmcmpfaaGreatDoorBPlanCovers14
import Derived.Handy
import Derived.Lib.SliceRun
import Derived.Test.YtpondkggmcmpfaaGreatDoorBPlanCovers0
import Derived.Test.YtpondkggmcmpfaaGreatDoorBPlanCovers8
import Derived.Deep.CutBlock
import Derived.Test.YtpondkggmcmpfaaGreatDoorBPlanCovers10
import Derived.Test.YtpondkggmcmpfaaGreatDoorBPlanCovers11
import Derived.Test.YtpondkggmcmpfaaGreatDoorBPlanCovers15
import Derived.Test.YtpondkggmcmpfaaGreatDoorBPlanCovers16
namespace Go.Proofs.YtpondkggmcmpfaaGreatDoor.QA
open Go.RowKit Go.Proofs.YtpondkggmcmpfaaGreatDoorW.PrintWords Go.Proofs.YtpondkggmcmpfaaGreatDoorW.PrintLast Go.Proofs.YtpondkggmcmpfaaGreatDoorW.PrintMore Go.Proofs.YtpondkggmcmpfaaGreatDoor.T
set_option linter.unusedVariables false
set_option linter.unusedSimpArgs false
def vJ (w:World) (base:Nat) (v:Value) (xs:List Int):Prop:=Kd.R (Kd.int .i64) 2 w base (fun k=>base≤k) v xs
theorem vJ.of {w:World} {base b2:Nat} {ok:Nat→Prop} {v:Value} {xs:List Int} (h:Kd.R (Kd.int .i64) 2 w base ok v xs) (hb:b2≤base):vJ w b2 v xs:=Kd.eF (Kd.fZ (Kd.nC h) hb) (fun _ hk=>Nat.le_trans hb hk.2.1)
theorem vJ.below {w w1:World} {base:Nat} {v:Value} {xs:List Int} (h:vJ w base v xs) (hb:Below w.heap.size w w1):vJ w1 base v xs:=Kd.jQ h hb
theorem vJ.far {w:World} {base r i:Nat} {u v:Value} {xs:List Int} (h:vJ w base v xs) (hr:r < base):vJ (w.setCell ⟨r,i,none⟩ u) base v xs:=Kd.aar h (fun k hk=>Below.heap_setCell _ _ _ _ (by show k≠r;omega))
theorem vJ.reads {w:World} {base n c:Nat} {A:Option Addr} {xs:List Int} (h:vJ w base (.slice A n c) xs):n=xs.length∧n≤c∧Kd.C (Kd.int .i64) w A xs.length xs:=Kd.dM h
def apM (k s r:Int) (x y u v:List Int) (c:Int):Prop:=(k=0∧v=u∧∃ K,bf.f K s=some (u,c))∨(k=1∧v=u∧∃ K,dO.f K r=some (u,c))∨(k=2∧∃ K c1 c2,bD.f K x=some (u,c1)∧bD.f K y=some (v,c2)∧c=if c1=0 then c2 else c1)
set_option maxHeartbeats 8000000 in
set_option maxRecDepth 100000 in
theorem ahT (k b s r:Int) (A4:Option Addr) (c4:Nat) (x:List Int) (A5:Option Addr) (c5:Nat) (y:List Int) (f ow oh:Int) (N1 N2:Nat) (u v:List Int) (c:Int) (o:S47) (w:World) (h1:¬ k < 0) (h2:¬ 3 < k) (h3:¬ b < 0) (h4:¬ 2 < b) (h5:bC.f N1=some true) (h6:bC.f N2=some true)
    (n1:1≤N1∧N1≤65536) (n2:1≤N2∧N2≤65536) (hk3:k≠3) (hw:apM k s r x y u v c) (hx:Kd.C (Kd.int .i64) w A4 x.length x) (lx:x.length≤c4) (hy:Kd.C (Kd.int .i64) w A5 y.length y) (ly:y.length≤c5)
    (hu:c=0→(∀ z ∈ u,I64 z)∧u.length < 4611686018427387904∧(∀ z ∈ v,I64 z)∧v.length < 4611686018427387904) (hbd:o.f1=b)
    (hC:je o N1 N2=if c=0 then if iT u N1=0 then iT v N2 else iT u N1 else c) (hX:c=0→nR o N1=iL N1 ((u.length / 2:Nat):Int) (iQ u) N1) (hY:c=0→nS o N2=iL N2 ((v.length / 2:Nat):Int) (iQ v) N2) :
    Calls Tryz.prog 57 #[opV k b s r A4 x.length c4 A5 y.length c5 f ow oh,.int .i64 N1,.int .i64 N2] w (aay o N1 N2 w):=by
  have HU:=aj.mk hu
  have HN:=aj.mk (And.intro n1 n2)
  have HXY:=aj.mk (And.intro hx hy)
  have awd:=aj.mk (And.intro lx ly)
  have kb3:(k == 3)=false:=by simpa using hk3
  have HW:=aj.mk hw
  have US:=aj.mk (fun K u c w' (hb:Below w.heap.size w w') (h:bD.f K x=some (u,c))=>bD.calls K A4 c4 x u c w' (Kd.bY hx hb) lx h)
  have US2:=aj.mk (fun K u c w' (hb:Below w.heap.size w w') (h:bD.f K y=some (u,c))=>bD.calls K A5 c5 y u c w' (Kd.bY hy hb) ly h)
  obtain ⟨p,hp⟩:∃ p,p=x.length:=⟨_,rfl⟩
  obtain ⟨q,hq⟩:∃ q,q=y.length:=⟨_,rfl⟩
  rw [← hp,← hq] at ⊢
  rw [← hp] at US
  rw [← hq] at US2
  clear hu n1 n2 hx hy lx ly hk3 hw hp hq HXY awd
  have HC:=aj.mk hC
  obtain ⟨W2,g,e2,hg,h1,h2,hb2,hz⟩:=aam (w:=w) (v0 := .int .i64 k) (v1 := .int .i64 b) (v2 := .int .i64 s) (v3 := .int .i64 r) (v4 := .slice A4 p c4) (v5 := .slice A5 q c5) (v6 := .int .i64 f) (v7 := .int .i64 ow) (v8 := .int .i64 oh)
  have HG1:=aj.mk (show w.heap.size≤g+1 by omega)
  have mixed:Tryz.prog.follows .mixedOrders=true:=by kernel_rfl
  have E2:=aj.mk e2
  have BQ:=aj.mk hb2
  have HG:=aj.mk hg
  have H1:=aj.mk h1
  have H2:=aj.mk h2
  have HS:=aj.mk hz
  have HX:=aj.mk (And.intro hX (And.intro hY hbd))
  clear hC e2 hb2 hg h1 h2 hz hX hY hbd
  unfold opV
  go_enter Tryz.func57,Tryz.ntmps57
  go_upto_region 1 with fail
  rw [← HG.out,← E2.out]
  clear HG E2
  have hz:=HS.out
  obtain ⟨z0,z1,z2,z3,z4,z5,z6,z7,z8⟩:=cells9 H1.out
  go_upto_region 5 with (first
    | (go_at_call 92;(with_reducible refine (bC.calls N1 true _ h5).mono ?_);rintro e w' ⟨rfl,⟨nd,rfl⟩⟩)
    | (go_at_call 92;(with_reducible refine (bC.calls N2 true _ h6).mono ?_);rintro e w' ⟨rfl,⟨nd2,rfl⟩⟩))
  obtain ⟨w4,e4,hb4,hB4⟩:=adf (w1:=W2.drewN (nd+nd2)) H1.out H2.out (aI BQ.out _) HS.out (.slice none 0 0) (.slice none 0 0) (.int .i64 N1) (.int .i64 N2) (.int .i64 b)
  rw [e4]
  clear z0 z1 z2 z3 z4 z5 z6 z7 z8 e4 H1 H2 BQ hz HS h5 h6
  have B4:=aj.mk hb4
  have K4:=aj.mk hB4
  clear hb4
  obtain ⟨z0,z1,z2,z3,z4,z5,z6,z7,z8⟩:=cells9 hB4.1
  clear hB4
  have HKK:=aj.mk (And.intro h1 h2)
  go_upto_block 0 with fail
  clear h1 h2 h3 h4 kb3
  (try simp only [Act.put,List.setIfInBounds_toArray,List.set_cons_zero,List.set_cons_succ])
  go_cut [9,10,11] (fun v9 v10 v11 wc=>∃ (A1:Option Addr) (k1:Nat) (A2:Option Addr) (k2:Nat),v9 = .int .i64 c∧v10 = .slice A1 u.length k1∧v11 = .slice A2 v.length k2∧aj (vJ wc (g+3) (.slice A1 u.length k1) u∧vJ wc (g+3) (.slice A2 v.length k2) v)∧aj (Below w.heap.size w wc)∧aj (yS wc g #[.int .i64 k,.int .i64 b,.int .i64 s,.int .i64 r,.slice A4 p c4,.slice A5 q c5,.int .i64 f,.int .i64 ow,.int .i64 oh] #[.slice none 0 0,.slice none 0 0,.int .i64 N1,.int .i64 N2,.int .i64 b]))
  case first =>
    rcases HW.out with ⟨e0,e1,K,e2⟩|⟨e0,e1,K,e2⟩|⟨e0,K,d1,d2,e2,e3,e4⟩
    · subst e1
      have kb:(k == 0)=true:=by simpa using e0
      have CL:=aj.mk (fun w'=>bf.calls K s v c w' e2)
      clear e0 e2 HW US US2
      go_wp2_with (go_at_call 94;(with_reducible refine (CL.out _).mono ?_);rintro e w6 ⟨_,rfl,hr,hb⟩;obtain ⟨A6,c6,rfl⟩:=Kd.gB hr;have B6:=aj.mk (ak B4.out hb);have K6:=aj.mk (K4.out.below hb);have R6:=aj.mk (vJ.of (b2:=g+3) hr (dJ K4.out.2.2));clear hr hb)
      go_meet
      case rel=>exact ⟨A6,c6,A6,c6,rfl,rfl,rfl,⟨R6.out,R6.out⟩,B6,K6⟩
    · subst e1
      have kb:(k == 0)=false:=by simp [e0]
      have kb1:(k == 1)=true:=by simpa using e0
      have CL:=aj.mk (fun w'=>dO.calls K r v c w' e2)
      clear e0 e2 HW US US2
      go_wp2_with (go_at_call 95;(with_reducible refine (CL.out _).mono ?_);rintro e w6 ⟨_,rfl,hr,hb⟩;obtain ⟨A6,c6,rfl⟩:=Kd.gB hr;have B6:=aj.mk (ak B4.out hb);have K6:=aj.mk (K4.out.below hb);have R6:=aj.mk (vJ.of (b2:=g+3) hr (dJ K4.out.2.2));clear hr hb)
      go_meet
      case rel=>exact ⟨A6,c6,A6,c6,rfl,rfl,rfl,⟨R6.out,R6.out⟩,B6,K6⟩
    · have kb:(k == 0)=false:=by simp [e0]
      have kb1:(k == 1)=false:=by simp [e0]
      have kb2:(k == 2)=true:=by simpa using e0
      have CL:=aj.mk (fun w' hb=>US.out K u d1 w' hb e2)
      have CM:=aj.mk (fun w' hb=>US2.out K v d2 w' hb e3)
      have E4:=aj.mk e4
      clear e0 e2 e3 e4 HW US US2
      go_upto_region 27 with (go_at_call 96;(with_reducible refine (CL.out _ B4.out).mono ?_);rintro e w6 ⟨_,rfl,hr,hb⟩;obtain ⟨A6,c6,rfl⟩:=Kd.gB hr;have B6:=aj.mk (ak B4.out hb);have K6:=aj.mk (K4.out.below hb);have R6:=aj.mk (vJ.of (b2:=g+3) hr (dJ K4.out.2.2));clear hr hb)
      clear z0 z1 z2 z3 z4 z5 z6 z7 z8
      obtain ⟨z0,z1,z2,z3,z4,z5,z6,z7,z8⟩:=cells9 K6.out.1
      go_upto_region 28 with (go_at_call 96;(with_reducible refine (CM.out _ B6.out).mono ?_);rintro e w7 ⟨_,rfl,hr,hb⟩;obtain ⟨A7,c7,rfl⟩:=Kd.gB hr;have B7:=aj.mk (ak B6.out hb);have K7:=aj.mk (K6.out.below hb);have R7:=aj.mk (vJ.of (b2:=g+3) hr (dJ K6.out.2.2));have Q7:=aj.mk (R6.out.below hb);clear hr hb)
      clear z0 z1 z2 z3 z4 z5 z6 z7 z8
      by_cases d0:d1=0
      · have e5:=E4.out
        rw [if_pos d0] at e5
        subst d0
        subst e5
        go_wp2
        go_meet
        case rel=>exact ⟨A6,c6,A7,c7,rfl,rfl,rfl,⟨Q7.out,R7.out⟩,B7,K7⟩
      · have e5:=E4.out
        rw [if_neg d0] at e5
        have db:(d1 == 0)=false:=by simpa using d0
        clear d0
        subst e5
        go_wp2
        go_meet
        case rel=>exact ⟨A6,c6,A7,c7,rfl,rfl,rfl,⟨Q7.out,R7.out⟩,B7,K7⟩
  case rest =>
    clear z0 z1 z2 z3 z4 z5 z6 z7 z8 HW US US2 HKK B4 K4
    obtain ⟨A1,k1,A2,k2,rfl,rfl,rfl,HCC,B5,K5⟩:=hcut
    by_cases c0:c=0
    rotate_left
    · rw [if_neg c0] at HC
      have KC:=aj.mk c0
      have k3:(c != 0)=true:=by simpa using c0
      clear c0
      obtain ⟨q0,q1,q2,q3,q4⟩:=cells5 K5.out.2.1
      obtain ⟨f0,f1,f2,f3,f4⟩:=qX K5.out.2.1
      go_wp2
      clear q0 q1 q2 q3 q4 f0 f1 f2 f3 f4
      obtain ⟨w20,e20,p0,p1,p2,p3,p4,B20,-⟩:=rV (w1:=wc) K5.out B5.out HG1.out (.slice none 0 0) (.slice none 0 0) (.int .i64 0) (.int .i64 0) (.int .i64 0)
      rw [e20]
      refine bodyPost_ret (by simp [results,Tryz.results57,go_sem,p0,p1,p2,p3,p4];try rfl) rfl ?_
      exact xR HC.out KC.out B20
    rw [if_pos c0] at HC
    obtain ⟨hu1,hu2,hu3,hu4⟩:=HU.out c0
    have HX1:=aj.mk (And.intro (HX.out.1 c0) (And.intro (HX.out.2.1 c0) HX.out.2.2))
    clear HU HX
    subst c0
    have F1:=aj.mk (fun w' (h:vJ w' (g+3) (.slice A1 u.length k1) u)=>abB A1 k1 u N1 w' h.reads.2.2 h.reads.2.1 hu1 hu2 HN.out.1.1 HN.out.1.2)
    have F2:=aj.mk (fun w' (h:vJ w' (g+3) (.slice A2 v.length k2) v)=>abB A2 k2 v N2 w' h.reads.2.2 h.reads.2.1 hu3 hu4 HN.out.2.1 HN.out.2.2)
    obtain ⟨c1,hc1⟩:∃ c1,c1=iT u N1:=⟨_,rfl⟩
    obtain ⟨c2,hc2⟩:∃ c2,c2=iT v N2:=⟨_,rfl⟩
    obtain ⟨tx,htx⟩:∃ t,t=iL N1 ((u.length / 2:Nat):Int) (iQ u) N1:=⟨_,rfl⟩
    obtain ⟨ty,hty⟩:∃ t,t=iL N2 ((v.length / 2:Nat):Int) (iQ v) N2:=⟨_,rfl⟩
    rw [← hc1,← htx] at F1
    rw [← hc2,← hty] at F2
    rw [← hc1,← hc2] at HC
    rw [← htx,← hty] at HX1
    obtain ⟨l1,hl1⟩:∃ l,l=tx.lines.map toR:=⟨_,rfl⟩
    obtain ⟨l2,hl2⟩:∃ l,l=ty.lines.map toR:=⟨_,rfl⟩
    rw [← hl1] at F1
    rw [← hl2] at F2
    have HL1:=aj.mk hl1
    have HL2:=aj.mk hl2
    have L5:=aj.mk (show g+2 < _ from dJ K5.out.2.2)
    clear hu1 hu2 hu3 hu4 hc1 hc2 htx hty hl1 hl2 HN
    obtain ⟨w5,hw5⟩:∃ x,x=wc:=⟨_,rfl⟩
    subst hw5
    by_cases c0:c1=0
    rotate_left
    · rw [if_neg c0] at HC
      have KC:=aj.mk c0
      have k3:(c1 != 0)=true:=by simpa using c0
      clear c0
      go_upto_region 33 with (go_at_call 97;(with_reducible refine (F1.out _ HCC.out.1).mono ?_);rintro e w6 ⟨hb,hT⟩;rw [if_neg KC.out] at hT;subst hT;have B6:=aj.mk (ak B5.out hb);have K6:=aj.mk (K5.out.below hb);have fz:=aN K6.out.2.2 0;have yz:w6.cell? ⟨g+2,0,none⟩=some (.slice none 0 0):=(au K6.out.2.2 0).trans rfl;clear hb)
      clear fz yz
      have B7:=aj.mk (B6.out.setCell (p:=⟨g+2,0,none⟩) (Nat.le_succ_of_le HG1.out) (.slice none 0 0))
      have K7:=aj.mk (K6.out.put 0 (.slice none 0 0))
      clear B6 K6
      generalize w6.setCell ⟨g+2,0,none⟩ (.slice none 0 0)=w7 at B7 K7 ⊢
      obtain ⟨q0,q1,q2,q3,q4⟩:=cells5 K7.out.2.1
      obtain ⟨f0,f1,f2,f3,f4⟩:=qX K7.out.2.1
      go_wp2
      clear q0 q1 q2 q3 q4 f0 f1 f2 f3 f4
      obtain ⟨w20,e20,p0,p1,p2,p3,p4,B20,-⟩:=rV (w1:=w7) K7.out B7.out HG1.out (.slice none 0 0) (.slice none 0 0) (.int .i64 0) (.int .i64 0) (.int .i64 0)
      rw [e20]
      refine bodyPost_ret (by simp [results,Tryz.results57,go_sem,p0,p1,p2,p3,p4];try rfl) rfl ?_
      exact xR HC.out KC.out B20
    rw [if_pos c0] at HC
    subst c0
    go_upto_region 33 with (go_at_call 97;(with_reducible refine (F1.out _ HCC.out.1).mono ?_);rintro e w6 ⟨hb,hT⟩;rw [if_pos rfl] at hT;obtain ⟨_,rfl,hr⟩:=hT;obtain ⟨A6,c6,rfl⟩:=Kd.gB hr;have B6:=aj.mk (ak B5.out hb);have K6:=aj.mk (K5.out.below hb);have R6:=aj.mk (mP.of hr);have D6:=aj.mk hb;have fz:=aN K6.out.2.2 0;have yz:w6.cell? ⟨g+2,0,none⟩=some (.slice none 0 0):=(au K6.out.2.2 0).trans rfl;clear hr hb)
    clear fz yz
    have B7:=aj.mk (B6.out.setCell (p:=⟨g+2,0,none⟩) (Nat.le_succ_of_le HG1.out) (.slice A6 l1.length c6))
    have hK:yS (w6.setCell ⟨g+2,0,none⟩ (.slice A6 l1.length c6)) g #[.int .i64 k,.int .i64 b,.int .i64 s,.int .i64 r,.slice A4 p c4,.slice A5 q c5,.int .i64 f,.int .i64 ow,.int .i64 oh] #[.slice A6 l1.length c6,.slice none 0 0,.int .i64 N1,.int .i64 N2,.int .i64 b]:=by simpa using K6.out.put 0 (.slice A6 l1.length c6)
    have K7:=aj.mk hK
    have R7:=aj.mk (R6.out.far (i:=0) (u:=(.slice A6 l1.length c6)) L5.out)
    have I7:=aj.mk ((HCC.out.2.below D6.out).far (r:=g+2) (i:=0) (u := .slice A6 l1.length c6) (by omega))
    clear B6 K6 R6 D6 hK HCC
    generalize w6.setCell ⟨g+2,0,none⟩ (.slice A6 l1.length c6)=w7 at K7 B7 R7 I7 ⊢
    have L7:=aj.mk (show g+2 < _ from dJ K7.out.2.2)
    by_cases c0:c2=0
    rotate_left
    · have KC:=aj.mk c0
      have k3:(c2 != 0)=true:=by simpa using c0
      clear c0
      go_upto_region 36 with (go_at_call 97;(with_reducible refine (F2.out _ I7.out).mono ?_);rintro e w8 ⟨hb,hT⟩;rw [if_neg KC.out] at hT;subst hT;have B8:=aj.mk (ak B7.out hb);have K8:=aj.mk (K7.out.below hb);have fz:=aN K8.out.2.2 1;have yz:w8.cell? ⟨g+2,1,none⟩=some (.slice none 0 0):=(au K8.out.2.2 1).trans rfl;clear hb)
      clear fz yz
      have B9:=aj.mk (B8.out.setCell (p:=⟨g+2,1,none⟩) (Nat.le_succ_of_le HG1.out) (.slice none 0 0))
      have K9:=aj.mk (K8.out.put 1 (.slice none 0 0))
      clear B8 K8
      generalize w8.setCell ⟨g+2,1,none⟩ (.slice none 0 0)=w9 at B9 K9 ⊢
      obtain ⟨q0,q1,q2,q3,q4⟩:=cells5 K9.out.2.1
      obtain ⟨f0,f1,f2,f3,f4⟩:=qX K9.out.2.1
      go_wp2
      clear q0 q1 q2 q3 q4 f0 f1 f2 f3 f4
      obtain ⟨w20,e20,p0,p1,p2,p3,p4,B20,-⟩:=rV (w1:=w9) K9.out B9.out HG1.out (.slice none 0 0) (.slice none 0 0) (.int .i64 0) (.int .i64 0) (.int .i64 0)
      rw [e20]
      refine bodyPost_ret (by simp [results,Tryz.results57,go_sem,p0,p1,p2,p3,p4];try rfl) rfl ?_
      exact xR HC.out KC.out B20
    subst c0
    go_upto_region 36 with (go_at_call 97;(with_reducible refine (F2.out _ I7.out).mono ?_);rintro e w8 ⟨hb,hT⟩;rw [if_pos rfl] at hT;obtain ⟨_,rfl,hr⟩:=hT;obtain ⟨A8,c8,rfl⟩:=Kd.gB hr;have B8:=aj.mk (ak B7.out hb);have K8:=aj.mk (K7.out.below hb);have R8:=aj.mk (mP.of hr);have D8:=aj.mk hb;have fz:=aN K8.out.2.2 1;have yz:w8.cell? ⟨g+2,1,none⟩=some (.slice none 0 0):=(au K8.out.2.2 1).trans rfl;clear hr hb)
    clear fz yz
    have B9:=aj.mk (B8.out.setCell (p:=⟨g+2,1,none⟩) (Nat.le_succ_of_le HG1.out) (.slice A8 l2.length c8))
    have hK:yS (w8.setCell ⟨g+2,1,none⟩ (.slice A8 l2.length c8)) g #[.int .i64 k,.int .i64 b,.int .i64 s,.int .i64 r,.slice A4 p c4,.slice A5 q c5,.int .i64 f,.int .i64 ow,.int .i64 oh] #[.slice A6 l1.length c6,.slice A8 l2.length c8,.int .i64 N1,.int .i64 N2,.int .i64 b]:=by simpa using K8.out.put 1 (.slice A8 l2.length c8)
    have K9:=aj.mk hK
    have R9:=aj.mk (R8.out.far (i:=1) (u:=(.slice A8 l2.length c8)) L7.out)
    have Q9:=aj.mk ((R7.out.below D8.out).far (i:=1) (u := .slice A8 l2.length c8) L5.out)
    clear B8 K8 R8 D8 hK R7
    generalize w8.setCell ⟨g+2,1,none⟩ (.slice A8 l2.length c8)=w9 at K9 B9 R9 Q9 ⊢
    obtain ⟨y0,y1,y2,y3,y4⟩:=cells5 K9.out.2.2
    obtain ⟨q0,q1,q2,q3,q4⟩:=cells5 K9.out.2.1
    obtain ⟨f0,f1,f2,f3,f4⟩:=qX K9.out.2.1
    go_wp2
    clear q0 q1 q2 q3 q4 f0 f1 f2 f3 f4 y0 y1 y2 y3 y4
    obtain ⟨w20,e20,p0,p1,p2,p3,p4,B20,R20⟩:=rV (w1:=w9) K9.out B9.out HG1.out (.slice A6 l1.length c6) (.slice A8 l2.length c8) (.int .i64 N1) (.int .i64 N2) (.int .i64 b)
    rw [e20]
    refine bodyPost_ret (by simp [results,Tryz.results57,go_sem,p0,p1,p2,p3,p4];try rfl) rfl ?_
    have hz5:w.heap.size≤w5.heap.size:=by have:=L5.out;have:=HG1.out;omega
    have hz7:w.heap.size≤w7.heap.size:=by have:=L7.out;have:=HG1.out;omega
    have r1:mP w20 w.heap.size (.slice A6 l1.length c6) (tx.lines.map toR):=by rw [← HL1.out];exact (R20 _ _ _ (by have:=L5.out;omega) Q9.out).lower hz5
    have r2:mP w20 w.heap.size (.slice A8 l2.length c8) (ty.lines.map toR):=by rw [← HL2.out];exact (R20 _ _ _ (by have:=L7.out;omega) R9.out).lower hz7
    exact air HC.out HX1.out.1 HX1.out.2.1 HX1.out.2.2 B20 r1 r2
end Go.Proofs.YtpondkggmcmpfaaGreatDoor.QA
