/- Joined by wip/tools/bundle.py out of: TZ. -/
import Derived.Test.YtpondkggmcmpfaaGreatDoorBPlanCovers1
import Derived.Test.YtpondkggmcmpfaaGreatDoorBPlanCovers9
import Derived.Test.YtpondkggmcmpfaaGreatDoorBPlanCovers7
import Derived.Handy
import Derived.Lib.SliceRun
import Derived.Test.YtpondkggmcmpfaaGreatDoorBPlanCovers0
import Derived.Test.YtpondkggmcmpfaaGreatDoorBPlanCovers8
import Derived.Test.YtpondkggmcmpfaaGreatDoorBPlanCovers10
import Derived.Test.YtpondkggmcmpfaaGreatDoorBPlanCovers11
import Derived.Test.YtpondkggmcmpfaaGreatDoorBPlanCovers15
namespace Go.Proofs.YtpondkggmcmpfaaGreatDoor.QA
open Go.RowKit Go.Proofs.YtpondkggmcmpfaaGreatDoorW.PrintWords Go.Proofs.YtpondkggmcmpfaaGreatDoorW.PrintLast Go.Proofs.YtpondkggmcmpfaaGreatDoorW.PrintMore Go.Proofs.YtpondkggmcmpfaaGreatDoor.T
set_option linter.unusedVariables false
set_option linter.unusedSimpArgs false
def mP (w:World) (base:Nat) (v:Value) (xs:List mG):Prop:=Kd.R aaP 138 w base (fun k=>base≤k) v xs
theorem mP.of {w:World} {base:Nat} {ok:Nat→Prop} {v:Value} {xs:List mG} (h:Kd.R aaP 138 w base ok v xs):mP w base v xs:=Kd.eF (Kd.nC h) (fun _ hk=>hk.2.1)
theorem mP.below {w w1:World} {base:Nat} {v:Value} {xs:List mG} (h:mP w base v xs) (hb:Below w.heap.size w w1):mP w1 base v xs:=Kd.jQ h hb
theorem mP.keep {w w1:World} {base:Nat} {v:Value} {xs:List mG} (h:mP w base v xs) (hb:∀ k,base≤k→w1.heap[k]? = w.heap[k]?):mP w1 base v xs:=Kd.aar h hb
theorem mP.lower {w:World} {base base':Nat} {v:Value} {xs:List mG} (h:mP w base v xs) (hb:base'≤base):mP w base' v xs:=Kd.eF (Kd.fZ h hb) (fun _ hk=>Nat.le_trans hb hk)
theorem mP.slice {w:World} {base:Nat} {v:Value} {xs:List mG} (h:mP w base v xs):∃ A c,v = .slice A xs.length c∧xs.length≤c∧Kd.C aaP w A xs.length xs:=Kd.xY h
theorem amW {w0 w:World} {N r t:Nat} {u0 u1 u2 u3 u4:Value} (h:w.heap[r]? = some (.cells #[u0,u1,u2,u3,u4] t (0,0))) (hb:Below N w0 w) (hr:N≤r) (v0 v1 v2 v3 v4:Value) :
    ∃ w6,((((w.setCell ⟨r,0,none⟩ v0).setCell ⟨r,1,none⟩ v1).setCell ⟨r,2,none⟩ v2).setCell ⟨r,3,none⟩ v3).setCell ⟨r,4,none⟩ v4=w6∧w6.heap[r]? = some (.cells #[v0,v1,v2,v3,v4] t (0,0))∧Below N w0 w6∧(∀ k,k≠r→w6.heap[k]? = w.heap[k]?)∧w6.heap.size=w.heap.size:=by
  refine ⟨_,rfl,by simpa using bP (bP (bP (bP (bP h 0 v0) 1 v1) 2 v2) 3 v3) 4 v4,((((hb.setCell (p:=⟨r,0,none⟩) hr v0).setCell (p:=⟨r,1,none⟩) hr v1).setCell (p:=⟨r,2,none⟩) hr v2).setCell (p:=⟨r,3,none⟩) hr v3).setCell (p:=⟨r,4,none⟩) hr v4,fun k hk => ?_,by simp [World.setCell]⟩
  rw [Below.heap_setCell _ _ _ _ hk,Below.heap_setCell _ _ _ _ hk,Below.heap_setCell _ _ _ _ hk,Below.heap_setCell _ _ _ _ hk,Below.heap_setCell _ _ _ _ hk]
theorem qX {w:World} {g t:Nat} {v0 v1 v2 v3 v4:Value} (h:w.heap[g]? = some (.cells #[v0,v1,v2,v3,v4] t (0,0))):w.frozen? ⟨g,0,none⟩=false∧w.frozen? ⟨g,1,none⟩=false∧w.frozen? ⟨g,2,none⟩=false∧w.frozen? ⟨g,3,none⟩=false∧w.frozen? ⟨g,4,none⟩=false:=⟨aN h 0,aN h 1,aN h 2,aN h 3,aN h 4⟩
def aay (o:S47) (W H:Int) (w:World) (e:Ending) (w':World):Prop:=Below w.heap.size w w'∧if je o W H=0 then ∃ v1 v2,e = .returned (.tuple #[.agg #[v1,v2,.int .i64 W,.int .i64 H,.int .i64 o.f1],.int .i64 0])∧mP w' w.heap.size v1 ((nR o W).lines.map toR)∧mP w' w.heap.size v2 ((nS o H).lines.map toR)
  else e = .returned (.tuple #[.agg #[.slice none 0 0,.slice none 0 0,.int .i64 0,.int .i64 0,.int .i64 0],.int .i64 (je o W H)])
theorem xR {o:S47} {W H c:Int} (he:je o W H=c) (hc:c≠0) {w w':World} (hb:Below w.heap.size w w'):aay o W H w (.returned (.tuple #[.agg #[.slice none 0 0,.slice none 0 0,.int .i64 0,.int .i64 0,.int .i64 0],.int .i64 c])) w':=⟨hb,by rw [if_neg (by rw [he];exact hc),he]⟩
theorem air {o:S47} {W H b:Int} {tx ty:Tab} (he:je o W H=0) (hx:nR o W=tx) (hy:nS o H=ty) (hbd:o.f1=b) {v1 v2:Value} {w w':World} (hb:Below w.heap.size w w') (r1:mP w' w.heap.size v1 (tx.lines.map toR)) (r2:mP w' w.heap.size v2 (ty.lines.map toR)):aay o W H w (.returned (.tuple #[.agg #[v1,v2,.int .i64 W,.int .i64 H,.int .i64 b],.int .i64 0])) w':=⟨hb,by rw [if_pos he];exact ⟨v1,v2,by rw [hbd],by rw [hx];exact r1,by rw [hy];exact r2⟩⟩
theorem pI (o:S47) (W H:Int) (h:¬ (aaV o∧nZ W∧nZ H)):je o W H=6:=by unfold je;exact if_neg h
theorem adB (n:Int):bC.f n=some (decide (1≤n∧n≤65536)):=by
  unfold bC.f
  by_cases h:n≥1
  · rw [if_pos h];congr 1;by_cases c:n≤65536
    · rw [decide_eq_true c,decide_eq_true ⟨h,c⟩]
    · rw [decide_eq_false c,decide_eq_false (fun q=>c q.2)]
  · rw [if_neg h];congr 1;rw [decide_eq_false (fun q=>h q.1)]
theorem aam {w:World} {v0 v1 v2 v3 v4 v5 v6 v7 v8:Value}:∃ W2 g,W2=(w.alloc (.cells #[v0,v1,v2,v3,v4,v5,v6,v7,v8] 111)).alloc (.cells #[.slice none 0 0,.slice none 0 0,.int .i64 0,.int .i64 0,.int .i64 0] 41)∧g=w.heap.size∧W2.heap[g]? = some (.cells #[v0,v1,v2,v3,v4,v5,v6,v7,v8] 111 (0,0))∧W2.heap[g+1]? = some (.cells #[.slice none 0 0,.slice none 0 0,.int .i64 0,.int .i64 0,.int .i64 0] 41 (0,0))∧Below w.heap.size w W2∧W2.heap.size=g+2:=by
  refine ⟨_,_,rfl,rfl,?_,?_,aT (aT (Below.refl w.heap.size w) _) _,by simp⟩
  · rw [rF _ _ _ (by simp)];exact heap_alloc_new w _
  · exact yL _ _ _ (by simp)
set_option maxHeartbeats 8000000 in
set_option maxRecDepth 100000 in
theorem vk (k b s r:Int) (A4:Option Addr) (p c4:Nat) (A5:Option Addr) (q c5:Nat) (f ow oh W H:Int) (o:S47) (w:World) (hC:je o W H=6)
    (h:k < 0∨(¬ k < 0∧3 < k)∨(¬ k < 0∧¬ 3 < k∧b < 0)∨(¬ k < 0∧¬ 3 < k∧¬ b < 0∧2 < b)∨(¬ k < 0∧¬ 3 < k∧¬ b < 0∧¬ 2 < b∧bC.f W=some false)∨(¬ k < 0∧¬ 3 < k∧¬ b < 0∧¬ 2 < b∧bC.f W=some true∧bC.f H=some false)) :
    Calls Tryz.prog 57 #[opV k b s r A4 p c4 A5 q c5 f ow oh,.int .i64 W,.int .i64 H] w (aay o W H w):=by
  have HC:=aj.mk hC
  obtain ⟨W2,g,e2,hg,h1,h2,hb2,-⟩:=aam (w:=w) (v0 := .int .i64 k) (v1 := .int .i64 b) (v2 := .int .i64 s) (v3 := .int .i64 r) (v4 := .slice A4 p c4) (v5 := .slice A5 q c5) (v6 := .int .i64 f) (v7 := .int .i64 ow) (v8 := .int .i64 oh)
  have HG1:=aj.mk (show w.heap.size≤g+1 by omega)
  have mixed:Tryz.prog.follows .mixedOrders=true:=by kernel_rfl
  have E2:=aj.mk e2
  have BQ:=aj.mk hb2
  have HG:=aj.mk hg
  have H1:=aj.mk h1
  have H2:=aj.mk h2
  clear hC e2 hb2 hg h1 h2
  unfold opV
  rcases h with h1|⟨h1,h2⟩|⟨h1,h2,h3⟩|⟨h1,h2,h3,h4⟩|⟨h1,h2,h3,h4,h5⟩|⟨h1,h2,h3,h4,h5,h6⟩
  all_goals (
    go_enter Tryz.func57,Tryz.ntmps57
    go_upto_region 1 with fail
    rw [← HG.out,← E2.out]
    clear HG E2
    obtain ⟨z0,z1,z2,z3,z4,z5,z6,z7,z8⟩:=cells9 H1.out
    obtain ⟨q0,q1,q2,q3,q4⟩:=cells5 H2.out
    obtain ⟨f0,f1,f2,f3,f4⟩:=qX H2.out
    go_wp2_with (first
      | (go_at_call 92;(with_reducible refine (bC.calls W false _ h5).mono ?_);rintro e w' ⟨rfl,⟨nd,rfl⟩⟩)
      | (go_at_call 92;(with_reducible refine (bC.calls W true _ h5).mono ?_);rintro e w' ⟨rfl,⟨nd,rfl⟩⟩)
      | (go_at_call 92;(with_reducible refine (bC.calls H false _ h6).mono ?_);rintro e w' ⟨rfl,⟨nd2,rfl⟩⟩))
    clear z0 z1 z2 z3 z4 z5 z6 z7 z8 q0 q1 q2 q3 q4 f0 f1 f2 f3 f4
    first
      | (obtain ⟨w6,e6,hc,B6,-,-⟩:=amW (w:=W2) H2.out BQ.out HG1.out (.slice none 0 0) (.slice none 0 0) (.int .i64 0) (.int .i64 0) (.int .i64 0);rw [e6])
      | (obtain ⟨w6,e6,hc,B6,-,-⟩:=amW (w:=W2.drewN nd) H2.out (aI BQ.out _) HG1.out (.slice none 0 0) (.slice none 0 0) (.int .i64 0) (.int .i64 0) (.int .i64 0);rw [e6])
      | (obtain ⟨w6,e6,hc,B6,-,-⟩:=amW (w:=W2.drewN (nd+nd2)) H2.out (aI BQ.out _) HG1.out (.slice none 0 0) (.slice none 0 0) (.int .i64 0) (.int .i64 0) (.int .i64 0);rw [e6])
    obtain ⟨p0,p1,p2,p3,p4⟩:=cells5 hc
    refine bodyPost_ret (by simp [results,Tryz.results57,go_sem,p0,p1,p2,p3,p4];try rfl) rfl ?_
    exact xR HC.out (by decide) B6)
def yS (w:World) (g:Nat) (a b:Array Value):Prop:=w.heap[g]? = some (.cells a 111 (0,0))∧w.heap[g+1]? = some (.cells #[.slice none 0 0,.slice none 0 0,.int .i64 0,.int .i64 0,.int .i64 0] 41 (0,0))∧w.heap[g+2]? = some (.cells b 41 (0,0))
theorem yS.below {w w1:World} {g:Nat} {a b:Array Value} (h:yS w g a b) (hb:Below w.heap.size w w1):yS w1 g a b:=⟨ay h.1 hb,ay h.2.1 hb,ay h.2.2 hb⟩
theorem yS.put {w:World} {g:Nat} {a b:Array Value} (h:yS w g a b) (i:Nat) (u:Value):yS (w.setCell ⟨g+2,i,none⟩ u) g a (b.setIfInBounds i u):=⟨iI h.1 (by simp) u,iI h.2.1 (by simp) u,bP h.2.2 i u⟩
theorem mP.far {w:World} {base r i:Nat} {u v:Value} {xs:List mG} (h:mP w base v xs) (hr:r < base):mP (w.setCell ⟨r,i,none⟩ u) base v xs:=h.keep (fun k hk=>Below.heap_setCell _ _ _ _ (by show k≠r;omega))
theorem adf {w w1:World} {g:Nat} {a0 a1 a2 a3 a4 a5 a6 a7 a8:Value} (h1:w1.heap[g]? = some (.cells #[a0,a1,a2,a3,a4,a5,a6,a7,a8] 111 (0,0))) (h2:w1.heap[g+1]? = some (.cells #[.slice none 0 0,.slice none 0 0,.int .i64 0,.int .i64 0,.int .i64 0] 41 (0,0))) (hb:Below w.heap.size w w1) (hz:w1.heap.size=g+2) (v0 v1 v2 v3 v4:Value) :
    ∃ w6,w1.alloc (.cells #[v0,v1,v2,v3,v4] 41)=w6∧Below w.heap.size w w6∧yS w6 g #[a0,a1,a2,a3,a4,a5,a6,a7,a8] #[v0,v1,v2,v3,v4]:=by
  have e0:=heap_alloc_new w1 (.cells #[v0,v1,v2,v3,v4] 41)
  rw [hz] at e0
  refine ⟨_,rfl,aT hb _,?_,?_,e0⟩
  · rw [rF _ _ _ (by omega)];exact h1
  · rw [rF _ _ _ (by omega)];exact h2
theorem rV {w w1:World} {g:Nat} {a b:Array Value} (h:yS w1 g a b) (hb:Below w.heap.size w w1) (hg:w.heap.size≤g+1) (v0 v1 v2 v3 v4:Value) :
    ∃ w6,((((w1.setCell ⟨g+1,0,none⟩ v0).setCell ⟨g+1,1,none⟩ v1).setCell ⟨g+1,2,none⟩ v2).setCell ⟨g+1,3,none⟩ v3).setCell ⟨g+1,4,none⟩ v4=w6∧w6.cell? ⟨g+1,0,none⟩=some v0∧w6.cell? ⟨g+1,1,none⟩=some v1∧w6.cell? ⟨g+1,2,none⟩=some v2∧w6.cell? ⟨g+1,3,none⟩=some v3∧w6.cell? ⟨g+1,4,none⟩=some v4∧Below w.heap.size w w6∧∀ base v xs,g+1 < base→mP w1 base v xs→mP w6 base v xs:=by
  obtain ⟨w6,e6,q1,q2,q3,-⟩:=amW h.2.1 hb hg v0 v1 v2 v3 v4
  obtain ⟨p0,p1,p2,p3,p4⟩:=cells5 q1
  exact ⟨w6,e6,p0,p1,p2,p3,p4,q2,fun base v xs hk hr=>hr.keep (fun k hk2=>q3 k (by omega))⟩
set_option maxHeartbeats 8000000 in
set_option maxRecDepth 100000 in
theorem aan (b s r:Int) (A4:Option Addr) (p c4:Nat) (A5:Option Addr) (q c5:Nat) (f ow oh W H:Int) (o:S47) (w:World) (hC:je o W H=6) (h3:¬ b < 0) (h4:¬ 2 < b) (h5:bC.f W=some true) (h6:bC.f H=some true)
    (h:bC.f ow=some false∨(bC.f ow=some true∧bC.f oh=some false)∨(bC.f ow=some true∧bC.f oh=some true∧f < 0)∨(bC.f ow=some true∧bC.f oh=some true∧¬ f < 0∧2 < f)) :
    Calls Tryz.prog 57 #[opV 3 b s r A4 p c4 A5 q c5 f ow oh,.int .i64 W,.int .i64 H] w (aay o W H w):=by
  have HC:=aj.mk hC
  obtain ⟨W2,g,e2,hg,h1,h2,hb2,hz⟩:=aam (w:=w) (v0 := .int .i64 3) (v1 := .int .i64 b) (v2 := .int .i64 s) (v3 := .int .i64 r) (v4 := .slice A4 p c4) (v5 := .slice A5 q c5) (v6 := .int .i64 f) (v7 := .int .i64 ow) (v8 := .int .i64 oh)
  have HG1:=aj.mk (show w.heap.size≤g+1 by omega)
  have mixed:Tryz.prog.follows .mixedOrders=true:=by kernel_rfl
  have E2:=aj.mk e2
  have BQ:=aj.mk hb2
  have HG:=aj.mk hg
  have H1:=aj.mk h1
  have H2:=aj.mk h2
  have HS:=aj.mk hz
  clear hC e2 hb2 hg h1 h2 hz
  unfold opV
  go_enter Tryz.func57,Tryz.ntmps57
  go_upto_region 1 with fail
  rw [← HG.out,← E2.out]
  clear HG E2
  have hz:=HS.out
  obtain ⟨z0,z1,z2,z3,z4,z5,z6,z7,z8⟩:=cells9 H1.out
  go_upto_region 5 with (first
    | (go_at_call 92;(with_reducible refine (bC.calls W true _ h5).mono ?_);rintro e w' ⟨rfl,⟨nd,rfl⟩⟩)
    | (go_at_call 92;(with_reducible refine (bC.calls H true _ h6).mono ?_);rintro e w' ⟨rfl,⟨nd2,rfl⟩⟩))
  obtain ⟨w4,e4,hb4,hB4⟩:=adf (w1:=W2.drewN (nd+nd2)) H1.out H2.out (aI BQ.out _) HS.out (.slice none 0 0) (.slice none 0 0) (.int .i64 W) (.int .i64 H) (.int .i64 b)
  rw [e4]
  clear z0 z1 z2 z3 z4 z5 z6 z7 z8 e4 H1 H2 BQ hz HS h5 h6
  have B4:=aj.mk hb4
  have K4:=aj.mk hB4
  clear hb4
  obtain ⟨z0,z1,z2,z3,z4,z5,z6,z7,z8⟩:=cells9 hB4.1
  clear hB4
  obtain ⟨q0,q1,q2,q3,q4⟩:=cells5 K4.out.2.1
  obtain ⟨f0,f1,f2,f3,f4⟩:=qX K4.out.2.1
  rcases h with h7|⟨h7,h8⟩|⟨h7,h8,h9⟩|⟨h7,h8,h9,h10⟩
  all_goals (
    go_wp2_with (first
      | (go_at_call 92;(with_reducible refine (bC.calls ow _ _ h7).mono ?_);rintro e w' ⟨rfl,⟨nd3,rfl⟩⟩)
      | (go_at_call 92;(with_reducible refine (bC.calls oh _ _ h8).mono ?_);rintro e w' ⟨rfl,⟨nd4,rfl⟩⟩))
    clear z0 z1 z2 z3 z4 z5 z6 z7 z8 q0 q1 q2 q3 q4 f0 f1 f2 f3 f4
    first
      | (obtain ⟨w9,e9,p0,p1,p2,p3,p4,B9,-⟩:=rV (w1:=w4.drewN nd3) K4.out (aI B4.out _) HG1.out (.slice none 0 0) (.slice none 0 0) (.int .i64 0) (.int .i64 0) (.int .i64 0);rw [e9])
      | (obtain ⟨w9,e9,p0,p1,p2,p3,p4,B9,-⟩:=rV (w1:=w4.drewN (nd3+nd4)) K4.out (aI B4.out _) HG1.out (.slice none 0 0) (.slice none 0 0) (.int .i64 0) (.int .i64 0) (.int .i64 0);rw [e9])
    refine bodyPost_ret (by simp [results,Tryz.results57,go_sem,p0,p1,p2,p3,p4];try rfl) rfl ?_
    exact xR HC.out (by decide) B9)
end Go.Proofs.YtpondkggmcmpfaaGreatDoor.QA
