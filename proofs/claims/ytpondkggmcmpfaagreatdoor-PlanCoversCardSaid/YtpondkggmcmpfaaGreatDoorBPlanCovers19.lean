/- Joined by wip/tools/bundle.py out of: TZn TO. -/
import Derived.Test.YtpondkggmcmpfaaGreatDoorBPlanCovers1
import Derived.Test.YtpondkggmcmpfaaGreatDoorBPlanCovers9
import Derived.Test.YtpondkggmcmpfaaGreatDoorBPlanCovers7
import Derived.Test.YtpondkggmcmpfaaGreatDoorBPlanCovers14
import Derived.Handy
import Derived.Lib.SliceRun
import Derived.Test.YtpondkggmcmpfaaGreatDoorBPlanCovers0
import Derived.Test.YtpondkggmcmpfaaGreatDoorBPlanCovers8
import Derived.Test.YtpondkggmcmpfaaGreatDoorBPlanCovers10
import Derived.Test.YtpondkggmcmpfaaGreatDoorBPlanCovers11
import Derived.Test.YtpondkggmcmpfaaGreatDoorBPlanCovers15
import Derived.Test.YtpondkggmcmpfaaGreatDoorBPlanCovers16
import Derived.Test.YtpondkggmcmpfaaGreatDoorBPlanCovers17
import Derived.Test.YtpondkggmcmpfaaGreatDoorBPlanCovers18
namespace Go.Proofs.YtpondkggmcmpfaaGreatDoor.QA
open Go.RowKit Go.Proofs.YtpondkggmcmpfaaGreatDoorW.PrintWords Go.Proofs.YtpondkggmcmpfaaGreatDoorW.PrintLast Go.Proofs.YtpondkggmcmpfaaGreatDoorW.PrintMore Go.Proofs.YtpondkggmcmpfaaGreatDoor.T
set_option linter.unusedVariables false
set_option linter.unusedSimpArgs false
theorem adC {o:S47} {W H:Int} (ho:aaV o) (hW:nZ W) (hH:nZ H) (h3:o.f0≠3):je o W H=if (jA o).2.2=0 then if iT (jA o).1 W=0 then iT (jA o).2.1 H else iT (jA o).1 W else (jA o).2.2:=by
  unfold je ac1 aeT
  rw [if_pos ⟨ho,hW,hH⟩,if_neg h3,if_neg h3]
  by_cases c:(jA o).2.2=0
  · rw [if_neg (fun h=>h.2 c),if_pos c]
  · rw [if_pos ⟨h3,c⟩,if_neg c]
theorem ak3 {o:S47} (h:opI o) (l4:o.f4.length < 4611686018427387904) (l5:o.f5.length < 4611686018427387904) (k0:0≤o.f0) (k2:o.f0 < 3):∃ u v c,apM o.f0 o.f2 o.f3 o.f4 o.f5 u v c∧c=(jA o).2.2∧(c=0→u=(jA o).1∧v=(jA o).2.1):=by
  obtain ⟨i0,i1,i2,i3,i4,i5,i6,i7,i8⟩:=h
  have hk:o.f0=0∨o.f0=1∨o.f0=2:=by omega
  unfold jA apM
  rcases hk with e|e|e
  · simp only [e,if_pos]
    exact ⟨_,_,_,.inl ⟨trivial,rfl,72000,(ahR (Nat.le_refl _) i2).trans rfl⟩,rfl,fun _=>⟨rfl,rfl⟩⟩
  · rw [e,if_neg (by decide),if_pos rfl]
    exact ⟨_,_,_,.inr (.inl ⟨rfl,rfl,3000,(aiP (Nat.le_refl _) i3).trans rfl⟩),rfl,fun _=>⟨rfl,rfl⟩⟩
  · rw [e,if_neg (by decide),if_neg (by decide)]
    refine ⟨(nO o.f4).1,(nO o.f5).1,if (nO o.f4).2=0 then (nO o.f5).2 else (nO o.f4).2,.inr (.inr ⟨rfl,o.f4.length+o.f5.length+200,(nO o.f4).2,(nO o.f5).2,(aaY (by omega) l4 i4).trans rfl,(aaY (by omega) l5 i5).trans rfl,rfl⟩),?_,?_⟩
    · by_cases c:(nO o.f4).2=0
      · rw [if_pos c,if_pos c]
      · rw [if_neg c,if_neg c]
    · intro hc
      by_cases c:(nO o.f4).2=0
      · rw [if_pos c];exact ⟨rfl,rfl⟩
      · rw [if_neg c] at hc;exact absurd hc c
theorem arQ {α:Type} {c:Int} {l:List α}:(if c=0 then (l,(0:Int)) else ([],c))=(if c=0 then l else [],c):=by
  by_cases h:c=0
  · rw [if_pos h,if_pos h,h]
  · rw [if_neg h,if_neg h]
theorem amX (o:S47) (W H:Int) (A4:Option Addr) (c4:Nat) (A5:Option Addr) (c5:Nat) (w:World) (hI:opI o) (hx:Kd.C (Kd.int .i64) w A4 o.f4.length o.f4) (lx:o.f4.length≤c4) (hy:Kd.C (Kd.int .i64) w A5 o.f5.length o.f5) (ly:o.f5.length≤c5) (l4:o.f4.length < 4611686018427387904) (l5:o.f5.length < 4611686018427387904) :
    Calls Tryz.prog 57 #[opV o.f0 o.f1 o.f2 o.f3 A4 o.f4.length c4 A5 o.f5.length c5 o.f6 o.f7 o.f8,.int .i64 W,.int .i64 H] w (aay o W H w):=by
  have sT:∀ {n:Int},nZ n→bC.f n=some true:=fun h=>by rw [adB];exact congrArg some (decide_eq_true h)
  have sF:∀ {n:Int},¬ nZ n→bC.f n=some false:=fun h=>by rw [adB];exact congrArg some (decide_eq_false h)
  by_cases k1:o.f0 < 0
  · exact vk _ _ _ _ A4 _ c4 A5 _ c5 _ _ _ W H o w (pI o W H (fun h=>by have:=h.1.1;omega)) (.inl k1)
  by_cases k2:3 < o.f0
  · exact vk _ _ _ _ A4 _ c4 A5 _ c5 _ _ _ W H o w (pI o W H (fun h=>by have:=h.1.2.1;omega)) (.inr (.inl ⟨k1,k2⟩))
  by_cases b1:o.f1 < 0
  · exact vk _ _ _ _ A4 _ c4 A5 _ c5 _ _ _ W H o w (pI o W H (fun h=>by have:=h.1.2.2.1;omega)) (.inr (.inr (.inl ⟨k1,k2,b1⟩)))
  by_cases b2:2 < o.f1
  · exact vk _ _ _ _ A4 _ c4 A5 _ c5 _ _ _ W H o w (pI o W H (fun h=>by have:=h.1.2.2.2.1;omega)) (.inr (.inr (.inr (.inl ⟨k1,k2,b1,b2⟩))))
  by_cases hW:nZ W
  rotate_left
  · exact vk _ _ _ _ A4 _ c4 A5 _ c5 _ _ _ W H o w (pI o W H (fun h=>hW h.2.1)) (.inr (.inr (.inr (.inr (.inl ⟨k1,k2,b1,b2,sF hW⟩)))))
  by_cases hH:nZ H
  rotate_left
  · exact vk _ _ _ _ A4 _ c4 A5 _ c5 _ _ _ W H o w (pI o W H (fun h=>hH h.2.2)) (.inr (.inr (.inr (.inr (.inr ⟨k1,k2,b1,b2,sT hW,sF hH⟩)))))
  by_cases h3:o.f0=3
  · rw [h3]
    by_cases a1:nZ o.f7
    rotate_left
    · exact aan _ _ _ A4 _ c4 A5 _ c5 _ _ _ W H o w (pI o W H (fun h=>a1 ⟨(h.1.2.2.2.2 h3).1,(h.1.2.2.2.2 h3).2.1⟩)) b1 b2 (sT hW) (sT hH) (.inl (sF a1))
    by_cases a2:nZ o.f8
    rotate_left
    · exact aan _ _ _ A4 _ c4 A5 _ c5 _ _ _ W H o w (pI o W H (fun h=>a2 ⟨(h.1.2.2.2.2 h3).2.2.1,(h.1.2.2.2.2 h3).2.2.2.1⟩)) b1 b2 (sT hW) (sT hH) (.inr (.inl ⟨sT a1,sF a2⟩))
    by_cases a3:o.f6 < 0
    · exact aan _ _ _ A4 _ c4 A5 _ c5 _ _ _ W H o w (pI o W H (fun h=>by have:=(h.1.2.2.2.2 h3).2.2.2.2.1;omega)) b1 b2 (sT hW) (sT hH) (.inr (.inr (.inl ⟨sT a1,sT a2,a3⟩)))
    by_cases a4:2 < o.f6
    · exact aan _ _ _ A4 _ c4 A5 _ c5 _ _ _ W H o w (pI o W H (fun h=>by have:=(h.1.2.2.2.2 h3).2.2.2.2.2;omega)) b1 b2 (sT hW) (sT hH) (.inr (.inr (.inr ⟨sT a1,sT a2,a3,a4⟩)))
    obtain ⟨M1,e1⟩:∃ M:Nat,o.f7=M:=⟨o.f7.toNat,by have:=a1.1;omega⟩
    obtain ⟨M2,e2⟩:∃ M:Nat,o.f8=M:=⟨o.f8.toNat,by have:=a2.1;omega⟩
    have q1:okR o.f6 W M1:=⟨by omega,by omega,hW.1,hW.2,by rw [← e1];exact a1.1,by rw [← e1];exact a1.2⟩
    have q2:okR o.f6 H M2:=⟨by omega,by omega,hH.1,hH.2,by rw [← e2];exact a2.1,by rw [← e2];exact a2.2⟩
    obtain ⟨K1,x1⟩:=abZ q1
    obtain ⟨K2,x2⟩:=abZ q2
    rw [arQ] at x1 x2
    have ho:aaV o:=⟨by omega,by omega,by omega,by omega,fun _=>⟨a1.1,a1.2,a2.1,a2.2,by omega,by omega⟩⟩
    have hs:je o W H=if gX o.f6 W M1 0 M1=0 then gX o.f6 H M2 0 M2 else gX o.f6 W M1 0 M1:=by
      unfold je ac1 aeT
      rw [if_pos ⟨ho,hW,hH⟩,if_neg (fun h=>h.1 h3),if_pos h3,if_pos h3,e1,e2];rfl
    exact ahS _ _ _ A4 _ c4 A5 _ c5 _ _ _ W H o w b1 b2 (sT hW) (sT hH) (sT a1) (sT a2) a3 a4 rfl _ _ (gq o.f6 W M1 M1) (gq o.f6 H M2 M2) _ _ K1 K2 (by rw [e1];exact x1) (by rw [e2];exact x2) (fun h=>if_pos h) (fun h=>if_pos h) hs (by unfold nR;rw [if_pos h3,e1];rfl) (by unfold nS;rw [if_pos h3,e2];rfl)
  · obtain ⟨hwx,hu,hv,lu,lv⟩:=ac0 o hI l4 l5
    obtain ⟨N1,rfl⟩:∃ N:Nat,W=N:=⟨W.toNat,by have:=hW.1;omega⟩
    obtain ⟨N2,rfl⟩:∃ N:Nat,H=N:=⟨H.toNat,by have:=hH.1;omega⟩
    have ho:aaV o:=⟨by omega,by omega,by omega,by omega,fun h=>absurd h h3⟩
    have hs:=adC ho hW hH h3
    obtain ⟨u,v,c,hR,hc,huv⟩:=ak3 hI l4 l5 (by omega) (by omega)
    refine ahT _ _ _ _ A4 c4 _ A5 c5 _ _ _ _ N1 N2 u v c o w k1 k2 b1 b2 (sT hW) (sT hH) (by have:=hW.1;have:=hW.2;omega) (by have:=hH.1;have:=hH.2;omega) h3 hR hx lx hy ly (fun h => ?_) rfl ?_ (fun h => ?_) (fun h => ?_)
    · obtain ⟨rfl,rfl⟩:=huv h
      exact ⟨hu,lu,hv,lv⟩
    · rw [hs,← hc]
      by_cases h:c=0
      · obtain ⟨rfl,rfl⟩:=huv h
        rfl
      · rw [if_neg h,if_neg h]
    · obtain ⟨rfl,rfl⟩:=huv h
      unfold nR;rw [if_neg h3];rfl
    · obtain ⟨rfl,rfl⟩:=huv h
      unfold nS;rw [if_neg h3];rfl
end Go.Proofs.YtpondkggmcmpfaaGreatDoor.QA
namespace Go.Proofs.YtpondkggmcmpfaaGreatDoor.QA
open Go.RowKit Go.Proofs.YtpondkggmcmpfaaGreatDoorW.PrintWords Go.Proofs.YtpondkggmcmpfaaGreatDoorW.PrintLast Go.Proofs.YtpondkggmcmpfaaGreatDoorW.PrintMore Go.Proofs.YtpondkggmcmpfaaGreatDoor.T
set_option linter.unusedVariables false
set_option linter.unusedSimpArgs false
theorem awe {w0 w:World} {N r t:Nat} {u0 u1 u2 u3 u4 u5 u6 u7 u8:Value} (h:w.heap[r]? = some (.cells #[u0,u1,u2,u3,u4,u5,u6,u7,u8] t (0,0))) (hb:Below N w0 w) (hr:N≤r) (v0 v1 v2 v3 v4 v5 v6 v7 v8:Value) :
    ∃ w6,((((((((w.setCell ⟨r,0,none⟩ v0).setCell ⟨r,1,none⟩ v1).setCell ⟨r,2,none⟩ v2).setCell ⟨r,3,none⟩ v3).setCell ⟨r,4,none⟩ v4).setCell ⟨r,5,none⟩ v5).setCell ⟨r,6,none⟩ v6).setCell ⟨r,7,none⟩ v7).setCell ⟨r,8,none⟩ v8=w6∧w6.heap[r]? = some (.cells #[v0,v1,v2,v3,v4,v5,v6,v7,v8] t (0,0))∧Below N w0 w6:=⟨_,rfl,by simpa using (bP (bP (bP (bP (bP (bP (bP (bP (bP h 0 v0) 1 v1) 2 v2) 3 v3) 4 v4) 5 v5) 6 v6) 7 v7) 8 v8),(((((((((hb.setCell (p:=⟨r,0,none⟩) hr v0).setCell (p:=⟨r,1,none⟩) hr v1).setCell (p:=⟨r,2,none⟩) hr v2).setCell (p:=⟨r,3,none⟩) hr v3).setCell (p:=⟨r,4,none⟩) hr v4).setCell (p:=⟨r,5,none⟩) hr v5).setCell (p:=⟨r,6,none⟩) hr v6).setCell (p:=⟨r,7,none⟩) hr v7).setCell (p:=⟨r,8,none⟩) hr v8)⟩
theorem arR {w:World} {g t:Nat} {v0 v1 v2 v3 v4 v5 v6 v7 v8:Value} (h:w.heap[g]? = some (.cells #[v0,v1,v2,v3,v4,v5,v6,v7,v8] t (0,0))):w.frozen? ⟨g,0,none⟩=false∧w.frozen? ⟨g,1,none⟩=false∧w.frozen? ⟨g,2,none⟩=false∧w.frozen? ⟨g,3,none⟩=false∧w.frozen? ⟨g,4,none⟩=false∧w.frozen? ⟨g,5,none⟩=false∧w.frozen? ⟨g,6,none⟩=false∧w.frozen? ⟨g,7,none⟩=false∧w.frozen? ⟨g,8,none⟩=false:=⟨aN h 0,aN h 1,aN h 2,aN h 3,aN h 4,aN h 5,aN h 6,aN h 7,aN h 8⟩
theorem ak4 {w:World} {v0 v1 v2 v3 v4 v5 v6 v7 v8:Value}:∃ W2 g,W2=(w.alloc (.cells #[v0,v1,v2,v3,v4,v5,v6,v7,v8] 47)).alloc (.cells #[.int .i64 0,.int .i64 0,.int .i64 0,.int .i64 0,.slice none 0 0,.slice none 0 0,.int .i64 0,.int .i64 0,.int .i64 0] 111)∧g=w.heap.size∧W2.heap[g]? = some (.cells #[v0,v1,v2,v3,v4,v5,v6,v7,v8] 47 (0,0))∧W2.heap[g+1]? = some (.cells #[.int .i64 0,.int .i64 0,.int .i64 0,.int .i64 0,.slice none 0 0,.slice none 0 0,.int .i64 0,.int .i64 0,.int .i64 0] 111 (0,0))∧Below w.heap.size w W2:=by
  refine ⟨_,_,rfl,rfl,?_,?_,aT (aT (Below.refl w.heap.size w) _) _⟩
  · rw [rF _ _ _ (by simp)];exact heap_alloc_new w _
  · exact yL _ _ _ (by simp)
set_option maxHeartbeats 8000000 in
set_option maxRecDepth 100000 in
theorem ak5 (k b s r:Int) (A4:Option Addr) (p c4:Nat) (A5:Option Addr) (q c5:Nat) (f ow oh:Int) (w:World) :
    Calls Tryz.prog 59 #[opV k b s r A4 p c4 A5 q c5 f ow oh] w fun e w'=>e = .returned (opV k b s r A4 p c4 A5 q c5 f ow oh)∧Below w.heap.size w w':=by
  obtain ⟨W2,g,e2,hg,h1,h2,hb2⟩:=ak4 (w:=w) (v0 := .int .i64 k) (v1 := .int .i64 b) (v2 := .int .i64 s) (v3 := .int .i64 r) (v4 := .slice A4 p c4) (v5 := .slice A5 q c5) (v6 := .int .i64 f) (v7 := .int .i64 ow) (v8 := .int .i64 oh)
  have HG1:=aj.mk (show w.heap.size≤g+1 by omega)
  have mixed:Tryz.prog.follows .mixedOrders=true:=by kernel_rfl
  have E2:=aj.mk e2
  have HG:=aj.mk hg
  have H1:=aj.mk h1
  have H2:=aj.mk h2
  have B2:=aj.mk hb2
  clear e2 hg h1 h2 hb2
  unfold opV
  go_enter Tryz.func59,Tryz.ntmps59
  go_upto_region 1 with fail
  rw [← HG.out,← E2.out]
  clear HG E2
  obtain ⟨z0,z1,z2,z3,z4,z5,z6,z7,z8⟩:=cells9 H1.out
  obtain ⟨q0,q1,q2,q3,q4,q5,q6,q7,q8⟩:=cells9 H2.out
  obtain ⟨f0,f1,f2,f3,f4,f5,f6,f7,f8⟩:=arR H2.out
  go_wp2
  clear z0 z1 z2 z3 z4 z5 z6 z7 z8 q0 q1 q2 q3 q4 q5 q6 q7 q8 f0 f1 f2 f3 f4 f5 f6 f7 f8
  obtain ⟨w6,e6,hc,B6⟩:=awe H2.out B2.out HG1.out (.int .i64 k) (.int .i64 b) (.int .i64 s) (.int .i64 r) (.slice A4 p c4) (.slice A5 q c5) (.int .i64 f) (.int .i64 ow) (.int .i64 oh)
  rw [e6]
  obtain ⟨z0,z1,z2,z3,z4,z5,z6,z7,z8⟩:=cells9 hc
  refine bodyPost_ret (by simp [results,Tryz.results59,go_sem,z0,z1,z2,z3,z4,z5,z6,z7,z8];try rfl) rfl ?_
  exact ⟨rfl,B6⟩
theorem au2 (W:World) (o:S47) (A4:Option Addr) (c4:Nat) (A5:Option Addr) (c5:Nat) (hx:Kd.C (Kd.int .i64) W A4 o.f4.length o.f4) (lx:o.f4.length≤c4) (hy:Kd.C (Kd.int .i64) W A5 o.f5.length o.f5) (ly:o.f5.length≤c5) :
    Kd.C k47 (W.alloc (.cells #[.int .i64 o.f0,.int .i64 o.f1,.int .i64 o.f2,.int .i64 o.f3,.slice A4 o.f4.length c4,.slice A5 o.f5.length c5,.int .i64 o.f6,.int .i64 o.f7,.int .i64 o.f8] 47 (0,0))) (some ⟨W.heap.size,0,none⟩) [o].length [o]:=by
  have hb:=aT (Below.refl W.heap.size W) (.cells #[.int .i64 o.f0,.int .i64 o.f1,.int .i64 o.f2,.int .i64 o.f3,.slice A4 o.f4.length c4,.slice A5 o.f5.length c5,.int .i64 o.f6,.int .i64 o.f7,.int .i64 o.f8] 47 (0,0))
  obtain ⟨z0,z1,z2,z3,z4,z5,z6,z7,z8⟩:=cells9 (heap_alloc_new W (.cells #[.int .i64 o.f0,.int .i64 o.f1,.int .i64 o.f2,.int .i64 o.f3,.slice A4 o.f4.length c4,.slice A5 o.f5.length c5,.int .i64 o.f6,.int .i64 o.f7,.int .i64 o.f8] 47 (0,0)))
  refine ⟨rfl,by simp,fun _=>⟨_,rfl,fun j p hp => ?_⟩⟩
  have hj:j=0:=by
    have:=(List.getElem?_eq_some_iff.1 hp).1
    simp at this;omega
  subst hj
  simp at hp
  subst hp
  refine ⟨_,rfl,anJ _ o lx (Kd.bY hx hb) ly (Kd.bY hy hb),fun i u hu => ?_⟩
  have hi:i < 9:=(List.getElem?_eq_some_iff.1 hu).1
  match i,hi,hu with
  | 0,_,hu=>rw [← Option.some.inj hu];exact z0
  | 1,_,hu=>rw [← Option.some.inj hu];exact z1
  | 2,_,hu=>rw [← Option.some.inj hu];exact z2
  | 3,_,hu=>rw [← Option.some.inj hu];exact z3
  | 4,_,hu=>rw [← Option.some.inj hu];exact z4
  | 5,_,hu=>rw [← Option.some.inj hu];exact z5
  | 6,_,hu=>rw [← Option.some.inj hu];exact z6
  | 7,_,hu=>rw [← Option.some.inj hu];exact z7
  | 8,_,hu=>rw [← Option.some.inj hu];exact z8
theorem arS {o:S47} {W H:Int} (hI:opI o) (l4:o.f4.length < 4611686018427387904) (l5:o.f5.length < 4611686018427387904) (h:je o W H=0):Told (nR o W)∧Told (nS o H)∧(nR o W).n=W∧(nS o H).n=H∧aaV o∧nZ W∧nZ H:=by
  by_cases hh:aaV o∧nZ W∧nZ H
  rotate_left
  · rw [pI o W H hh] at h;exact absurd h (by decide)
  obtain ⟨ho,hW,hH⟩:=hh
  obtain ⟨N1,rfl⟩:∃ N:Nat,W=N:=⟨W.toNat,by have:=hW.1;omega⟩
  obtain ⟨N2,rfl⟩:∃ N:Nat,H=N:=⟨H.toNat,by have:=hH.1;omega⟩
  have n1:1≤N1∧N1≤65536:=by have:=hW.1;have:=hW.2;omega
  have n2:1≤N2∧N2≤65536:=by have:=hH.1;have:=hH.2;omega
  refine (fun hT:Told (nR o N1)∧Told (nS o N2)∧(nR o N1).n=N1∧(nS o N2).n=N2=>⟨hT.1,hT.2.1,hT.2.2.1,hT.2.2.2,ho,hW,hH⟩) ?_
  by_cases h3:o.f0=3
  · obtain ⟨a1,a2,a3,a4,a5,a6⟩:=ho.2.2.2.2 h3
    obtain ⟨M1,e1⟩:∃ M:Nat,o.f7=M:=⟨o.f7.toNat,by omega⟩
    obtain ⟨M2,e2⟩:∃ M:Nat,o.f8=M:=⟨o.f8.toNat,by omega⟩
    have q1:okR o.f6 N1 M1:=⟨a5,a6,hW.1,hW.2,by omega,by omega⟩
    have q2:okR o.f6 N2 M2:=⟨a5,a6,hH.1,hH.2,by omega,by omega⟩
    have hs:je o N1 N2=if gX o.f6 N1 M1 0 M1=0 then gX o.f6 N2 M2 0 M2 else gX o.f6 N1 M1 0 M1:=by
      unfold je ac1 aeT
      rw [if_pos ⟨ho,hW,hH⟩,if_neg (fun h=>h.1 h3),if_pos h3,if_pos h3,e1,e2];rfl
    rw [hs] at h
    have ex:nR o N1=gq o.f6 N1 M1 M1:=by unfold nR;rw [if_pos h3,e1];rfl
    have ey:nS o N2=gq o.f6 N2 M2 M2:=by unfold nS;rw [if_pos h3,e2];rfl
    rw [ex,ey]
    by_cases k1:gX o.f6 N1 M1 0 M1=0
    · rw [if_pos k1] at h
      exact ⟨akp q1 k1,akp q2 h,afB _ _ _ _,afB _ _ _ _⟩
    · rw [if_neg k1] at h;exact absurd h k1
  · obtain ⟨hw,hu,hv,lu,lv⟩:=ac0 o hI l4 l5
    rw [adC ho hW hH h3] at h
    have ex:nR o N1=iL N1 (((jA o).1.length / 2:Nat):Int) (iQ (jA o).1) N1:=by unfold nR;rw [if_neg h3];rfl
    have ey:nS o N2=iL N2 (((jA o).2.1.length / 2:Nat):Int) (iQ (jA o).2.1) N2:=by unfold nS;rw [if_neg h3];rfl
    rw [ex,ey]
    by_cases k0:(jA o).2.2=0
    · rw [if_pos k0] at h
      by_cases k1:iT (jA o).1 N1=0
      · rw [if_pos k1] at h
        exact ⟨akq n1.1 n1.2 hu k1,akq n2.1 n2.2 hv h,afC _ _ _ _,afC _ _ _ _⟩
      · rw [if_neg k1] at h;exact absurd h k1
    · rw [if_neg k0] at h;exact absurd h k0
end Go.Proofs.YtpondkggmcmpfaaGreatDoor.QA
