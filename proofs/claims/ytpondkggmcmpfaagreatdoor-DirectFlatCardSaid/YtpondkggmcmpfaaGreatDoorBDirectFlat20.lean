/- Joined by wip/tools/bundle.py out of: TZn TO TS TT. -/
import Derived.Test.YtpondkggmcmpfaaGreatDoorBDirectFlat18
import Derived.Test.YtpondkggmcmpfaaGreatDoorBDirectFlat19
set_option maxHeartbeats 8000000
set_option maxRecDepth 100000
namespace Go.Proofs.YtpondkggmcmpfaaGreatDoor.QA
open Go.RowKit Go.Proofs.YtpondkggmcmpfaaGreatDoorW.PrintWords Go.Proofs.YtpondkggmcmpfaaGreatDoorW.PrintLast Go.Proofs.YtpondkggmcmpfaaGreatDoorW.PrintMore Go.Proofs.YtpondkggmcmpfaaGreatDoor.T
set_option linter.unusedVariables false
set_option linter.unusedSimpArgs false
theorem abE {o:S47} {W H:Int} (ho:aah o) (hW:mM W) (hH:mM H) (h3:o.f0≠3):iR o W H=if (jl o).2.2=0 then if iO (jl o).1 W=0 then iO (jl o).2.1 H else iO (jl o).1 W else (jl o).2.2:=by
 unfold iR acM adU;rw [if_pos ⟨ho,hW,hH⟩,if_neg h3,if_neg h3];by_cases c:(jl o).2.2=0
 . rw [if_neg (fun h=>h.2 c),if_pos c]
 . rw [if_pos ⟨h3,c⟩,if_neg c]
theorem amM {o:S47} (h:opI o) (l4:o.f4.length < 4611686018427387904) (l5:o.f5.length < 4611686018427387904) (k0:0<=o.f0) (k2:o.f0 < 3):∃ u v c,arS o.f0 o.f2 o.f3 o.f4 o.f5 u v c/\c=(jl o).2.2/\(c=0->u=(jl o).1/\v=(jl o).2.1):=by
 obtain ⟨i0,i1,i2,i3,i4,i5,i6,i7,i8⟩:=h;have hk:o.f0=0\/o.f0=1\/o.f0=2:=(by omega);unfold jl arS;rcases hk with e|e|e
 . simp only [e,if_pos];exact ⟨_,_,_,.inl ⟨trivial,rfl,72000,(ajg (Nat.le_refl _) i2).trans rfl⟩,rfl,fun _=>⟨rfl,rfl⟩⟩
 . rw [e,if_neg (by decide),if_pos rfl];exact ⟨_,_,_,.inr (.inl ⟨rfl,rfl,3000,(akf (Nat.le_refl _) i3).trans rfl⟩),rfl,fun _=>⟨rfl,rfl⟩⟩
 . rw [e,if_neg (by decide),if_neg (by decide)];refine ⟨(oM o.f4).1,(oM o.f5).1,if (oM o.f4).2=0 then (oM o.f5).2 else (oM o.f4).2,.inr (.inr ⟨rfl,o.f4.length+o.f5.length+200,(oM o.f4).2,(oM o.f5).2,(abC (by omega) l4 i4).trans rfl,(abC (by omega) l5 i5).trans rfl,rfl⟩),?_,?_⟩
   . by_cases c:(oM o.f4).2=0
     . rw [if_pos c,if_pos c]
     . rw [if_neg c,if_neg c]
   . intro hc;by_cases c:(oM o.f4).2=0
     . rw [if_pos c];exact ⟨rfl,rfl⟩
     . rw [if_neg c] at hc;exact absurd hc c
theorem aun {α:Type} {c:Int} {l:List α}:(if c=0 then (l,(0:Int)) else ([],c))=(if c=0 then l else [],c):=by
 by_cases h:c=0
 . rw [if_pos h,if_pos h,h]
 . rw [if_neg h,if_neg h]
theorem aoT (o:S47) (W H:Int) (A4:Option Addr) (c4:Nat) (A5:Option Addr) (c5:Nat) (w:World) (hI:opI o) (hx:Kd.C (Kd.int .i64) w A4 o.f4.length o.f4) (lx:o.f4.length<=c4) (hy:Kd.C (Kd.int .i64) w A5 o.f5.length o.f5) (ly:o.f5.length<=c5) (l4:o.f4.length < 4611686018427387904) (l5:o.f5.length < 4611686018427387904) :
   Calls Tryz.prog 57 #[opV o.f0 o.f1 o.f2 o.f3 A4 o.f4.length c4 A5 o.f5.length c5 o.f6 o.f7 o.f8,.int .i64 W,.int .i64 H] w (abg o W H w):=by
 have sT:∀ {n:Int},mM n->bM.f n=some true:=fun h=>by rw [aex];exact congrArg some (decide_eq_true h)
 have sF:∀ {n:Int},¬ mM n->bM.f n=some false:=fun h=>by rw [aex];exact congrArg some (decide_eq_false h)
 by_cases k1:o.f0 < 0
 . exact wJ _ _ _ _ A4 _ c4 A5 _ c5 _ _ _ W H o w (pR o W H (fun h=>by have:=h.1.1;omega)) (.inl k1)
 by_cases k2:3 < o.f0
 . exact wJ _ _ _ _ A4 _ c4 A5 _ c5 _ _ _ W H o w (pR o W H (fun h=>by have:=h.1.2.1;omega)) (.inr (.inl ⟨k1,k2⟩))
 by_cases b1:o.f1 < 0
 . exact wJ _ _ _ _ A4 _ c4 A5 _ c5 _ _ _ W H o w (pR o W H (fun h=>by have:=h.1.2.2.1;omega)) (.inr (.inr (.inl ⟨k1,k2,b1⟩)))
 by_cases b2:2 < o.f1
 . exact wJ _ _ _ _ A4 _ c4 A5 _ c5 _ _ _ W H o w (pR o W H (fun h=>by have:=h.1.2.2.2.1;omega)) (.inr (.inr (.inr (.inl ⟨k1,k2,b1,b2⟩))))
 by_cases hW:mM W;rotate_left
 . exact wJ _ _ _ _ A4 _ c4 A5 _ c5 _ _ _ W H o w (pR o W H (fun h=>hW h.2.1)) (.inr (.inr (.inr (.inr (.inl ⟨k1,k2,b1,b2,sF hW⟩)))))
 by_cases hH:mM H;rotate_left
 . exact wJ _ _ _ _ A4 _ c4 A5 _ c5 _ _ _ W H o w (pR o W H (fun h=>hH h.2.2)) (.inr (.inr (.inr (.inr (.inr ⟨k1,k2,b1,b2,sT hW,sF hH⟩)))))
 by_cases h3:o.f0=3
 . rw [h3];by_cases a1:mM o.f7;rotate_left
   . exact aa5 _ _ _ A4 _ c4 A5 _ c5 _ _ _ W H o w (pR o W H (fun h=>a1 ⟨(h.1.2.2.2.2 h3).1,(h.1.2.2.2.2 h3).2.1⟩)) b1 b2 (sT hW) (sT hH) (.inl (sF a1))
   by_cases a2:mM o.f8;rotate_left
   . exact aa5 _ _ _ A4 _ c4 A5 _ c5 _ _ _ W H o w (pR o W H (fun h=>a2 ⟨(h.1.2.2.2.2 h3).2.2.1,(h.1.2.2.2.2 h3).2.2.2.1⟩)) b1 b2 (sT hW) (sT hH) (.inr (.inl ⟨sT a1,sF a2⟩))
   by_cases a3:o.f6 < 0
   . exact aa5 _ _ _ A4 _ c4 A5 _ c5 _ _ _ W H o w (pR o W H (fun h=>by have:=(h.1.2.2.2.2 h3).2.2.2.2.1;omega)) b1 b2 (sT hW) (sT hH) (.inr (.inr (.inl ⟨sT a1,sT a2,a3⟩)))
   by_cases a4:2 < o.f6
   . exact aa5 _ _ _ A4 _ c4 A5 _ c5 _ _ _ W H o w (pR o W H (fun h=>by have:=(h.1.2.2.2.2 h3).2.2.2.2.2;omega)) b1 b2 (sT hW) (sT hH) (.inr (.inr (.inr ⟨sT a1,sT a2,a3,a4⟩)))
   obtain ⟨M1,e1⟩:∃ M:Nat,o.f7=M:=⟨o.f7.toNat,by have:=a1.1;omega⟩;obtain ⟨M2,e2⟩:∃ M:Nat,o.f8=M:=⟨o.f8.toNat,by have:=a2.1;omega⟩;have q1:okR o.f6 W M1:=⟨by omega,by omega,hW.1,hW.2,by rw [<- e1];exact a1.1,by rw [<- e1];exact a1.2⟩;have q2:okR o.f6 H M2:=⟨by omega,by omega,hH.1,hH.2,by rw [<- e2];exact a2.1,by rw [<- e2];exact a2.2⟩;obtain ⟨K1,x1⟩:=ac0 q1;obtain ⟨K2,x2⟩:=ac0 q2;rw [aun] at x1 x2;have ho:aah o:=⟨by omega,by omega,by omega,by omega,fun _=>⟨a1.1,a1.2,a2.1,a2.2,by omega,by omega⟩⟩;have hs:iR o W H=if gK o.f6 W M1 0 M1=0 then gK o.f6 H M2 0 M2 else gK o.f6 W M1 0 M1:=by
     unfold iR acM adU;rw [if_pos ⟨ho,hW,hH⟩,if_neg (fun h=>h.1 h3),if_pos h3,if_pos h3,e1,e2];rfl
   exact aji _ _ _ A4 _ c4 A5 _ c5 _ _ _ W H o w b1 b2 (sT hW) (sT hH) (sT a1) (sT a2) a3 a4 rfl _ _ (iC o.f6 W M1 M1) (iC o.f6 H M2 M2) _ _ K1 K2 (by rw [e1];exact x1) (by rw [e2];exact x2) (fun h=>if_pos h) (fun h=>if_pos h) hs (by unfold kD;rw [if_pos h3,e1];rfl) (by unfold kE;rw [if_pos h3,e2];rfl)
 . obtain ⟨hwx,hu,hv,lu,lv⟩:=abJ o hI l4 l5;obtain ⟨N1,rfl⟩:∃ N:Nat,W=N:=⟨W.toNat,by have:=hW.1;omega⟩;obtain ⟨N2,rfl⟩:∃ N:Nat,H=N:=⟨H.toNat,by have:=hH.1;omega⟩;have ho:aah o:=⟨by omega,by omega,by omega,by omega,fun h=>absurd h h3⟩;have hs:=abE ho hW hH h3;obtain ⟨u,v,c,hR,hc,huv⟩:=amM hI l4 l5 (by omega) (by omega);refine ajj _ _ _ _ A4 c4 _ A5 c5 _ _ _ _ N1 N2 u v c o w k1 k2 b1 b2 (sT hW) (sT hH) (by have:=hW.1;have:=hW.2;omega) (by have:=hH.1;have:=hH.2;omega) h3 hR hx lx hy ly (fun h => ?_) rfl ?_ (fun h => ?_) (fun h => ?_)
   . obtain ⟨rfl,rfl⟩:=huv h;exact ⟨hu,lu,hv,lv⟩
   . rw [hs,<- hc];by_cases h:c=0
     . obtain ⟨rfl,rfl⟩:=huv h;rfl
     . rw [if_neg h,if_neg h]
   . obtain ⟨rfl,rfl⟩:=huv h;unfold kD;rw [if_neg h3];rfl
   . obtain ⟨rfl,rfl⟩:=huv h;unfold kE;rw [if_neg h3];rfl
theorem azt {w0 w:World} {N r t:Nat} {u0 u1 u2 u3 u4 u5 u6 u7 u8:Value} (h:w.heap[r]? = some (.cells #[u0,u1,u2,u3,u4,u5,u6,u7,u8] t (0,0))) (hb:Below N w0 w) (hr:N<=r) (v0 v1 v2 v3 v4 v5 v6 v7 v8:Value) :
   ∃ w6,((((((((w.setCell ⟨r,0,none⟩ v0).setCell ⟨r,1,none⟩ v1).setCell ⟨r,2,none⟩ v2).setCell ⟨r,3,none⟩ v3).setCell ⟨r,4,none⟩ v4).setCell ⟨r,5,none⟩ v5).setCell ⟨r,6,none⟩ v6).setCell ⟨r,7,none⟩ v7).setCell ⟨r,8,none⟩ v8=w6/\w6.heap[r]? = some (.cells #[v0,v1,v2,v3,v4,v5,v6,v7,v8] t (0,0))/\Below N w0 w6:=⟨_,rfl,by simpa using (ig (ig (ig (ig (ig (ig (ig (ig (ig h 0 v0) 1 v1) 2 v2) 3 v3) 4 v4) 5 v5) 6 v6) 7 v7) 8 v8),(((((((((hb.setCell (p:=⟨r,0,none⟩) hr v0).setCell (p:=⟨r,1,none⟩) hr v1).setCell (p:=⟨r,2,none⟩) hr v2).setCell (p:=⟨r,3,none⟩) hr v3).setCell (p:=⟨r,4,none⟩) hr v4).setCell (p:=⟨r,5,none⟩) hr v5).setCell (p:=⟨r,6,none⟩) hr v6).setCell (p:=⟨r,7,none⟩) hr v7).setCell (p:=⟨r,8,none⟩) hr v8)⟩
theorem auo {w:World} {g t:Nat} {v0 v1 v2 v3 v4 v5 v6 v7 v8:Value} (h:w.heap[g]? = some (.cells #[v0,v1,v2,v3,v4,v5,v6,v7,v8] t (0,0))):w.frozen? ⟨g,0,none⟩=false/\w.frozen? ⟨g,1,none⟩=false/\w.frozen? ⟨g,2,none⟩=false/\w.frozen? ⟨g,3,none⟩=false/\w.frozen? ⟨g,4,none⟩=false/\w.frozen? ⟨g,5,none⟩=false/\w.frozen? ⟨g,6,none⟩=false/\w.frozen? ⟨g,7,none⟩=false/\w.frozen? ⟨g,8,none⟩=false:=⟨aN h 0,aN h 1,aN h 2,aN h 3,aN h 4,aN h 5,aN h 6,aN h 7,aN h 8⟩
theorem amN {w:World} {v0 v1 v2 v3 v4 v5 v6 v7 v8:Value}:∃ W2 g,W2=(w.alloc (.cells #[v0,v1,v2,v3,v4,v5,v6,v7,v8] 47)).alloc (.cells #[.int .i64 0,.int .i64 0,.int .i64 0,.int .i64 0,.slice none 0 0,.slice none 0 0,.int .i64 0,.int .i64 0,.int .i64 0] 111)/\g=w.heap.size/\W2.heap[g]? = some (.cells #[v0,v1,v2,v3,v4,v5,v6,v7,v8] 47 (0,0))/\W2.heap[g+1]? = some (.cells #[.int .i64 0,.int .i64 0,.int .i64 0,.int .i64 0,.slice none 0 0,.slice none 0 0,.int .i64 0,.int .i64 0,.int .i64 0] 111 (0,0))/\Below w.heap.size w W2:=by
 refine ⟨_,_,rfl,rfl,?_,?_,aT (aT (Below.refl w.heap.size w) _) _⟩
 . rw [xw _ _ _ (by simp)];exact heap_alloc_new w _
 . exact vU _ _ _ (by simp)
theorem amO (k b s r:Int) (A4:Option Addr) (p c4:Nat) (A5:Option Addr) (q c5:Nat) (f ow oh:Int) (w:World) :
   Calls Tryz.prog 59 #[opV k b s r A4 p c4 A5 q c5 f ow oh] w fun e w'=>e = .returned (opV k b s r A4 p c4 A5 q c5 f ow oh)/\Below w.heap.size w w':=by
 obtain ⟨W2,g,e2,hg,h1,h2,hb2⟩:=amN (w:=w) (v0 := .int .i64 k) (v1 := .int .i64 b) (v2 := .int .i64 s) (v3 := .int .i64 r) (v4 := .slice A4 p c4) (v5 := .slice A5 q c5) (v6 := .int .i64 f) (v7 := .int .i64 ow) (v8 := .int .i64 oh);have HG1:=aj.mk (show w.heap.size<=g+1 by omega);have mixed:Tryz.prog.follows .mixedOrders=true:=(by kernel_rfl);have E2:=aj.mk e2;have HG:=aj.mk hg;have H1:=aj.mk h1;have H2:=aj.mk h2;have B2:=aj.mk hb2;clear e2 hg h1 h2 hb2;unfold opV;go_enter Tryz.func59,Tryz.ntmps59;go_upto_region 1 with fail;rw [<- HG.out,<- E2.out];clear HG E2;obtain ⟨z0,z1,z2,z3,z4,z5,z6,z7,z8⟩:=cells9 H1.out;obtain ⟨q0,q1,q2,q3,q4,q5,q6,q7,q8⟩:=cells9 H2.out;obtain ⟨f0,f1,f2,f3,f4,f5,f6,f7,f8⟩:=auo H2.out;go_wp2;clear z0 z1 z2 z3 z4 z5 z6 z7 z8 q0 q1 q2 q3 q4 q5 q6 q7 q8 f0 f1 f2 f3 f4 f5 f6 f7 f8;obtain ⟨w6,e6,hc,B6⟩:=azt H2.out B2.out HG1.out (.int .i64 k) (.int .i64 b) (.int .i64 s) (.int .i64 r) (.slice A4 p c4) (.slice A5 q c5) (.int .i64 f) (.int .i64 ow) (.int .i64 oh);rw [e6];obtain ⟨z0,z1,z2,z3,z4,z5,z6,z7,z8⟩:=cells9 hc;refine bodyPost_ret (by simp [results,Tryz.results59,go_sem,z0,z1,z2,z3,z4,z5,z6,z7,z8];try rfl) rfl ?_;exact ⟨rfl,B6⟩
theorem akh (o:S47) (W H:Int):qw.f o.f0 o.f1 o.f2 o.f3 o.f4 o.f5 o.f6 o.f7 o.f8 W H=some ((o9 o W H).1,(o9 o W H).2):=by
 unfold qw.f o9;split <;> rfl
theorem aup {o:S47} {W H:Int} (hI:opI o) (l4:o.f4.length < 4611686018427387904) (l5:o.f5.length < 4611686018427387904) (h:iR o W H=0):Told (kD o W)/\Told (kE o H)/\(kD o W).n=W/\(kE o H).n=H/\aah o/\mM W/\mM H:=by
 by_cases hh:aah o/\mM W/\mM H;rotate_left
 . rw [pR o W H hh] at h;exact absurd h (by decide)
 obtain ⟨ho,hW,hH⟩:=hh;obtain ⟨N1,rfl⟩:∃ N:Nat,W=N:=⟨W.toNat,by have:=hW.1;omega⟩;obtain ⟨N2,rfl⟩:∃ N:Nat,H=N:=⟨H.toNat,by have:=hH.1;omega⟩;have n1:1<=N1/\N1<=65536:=(by have:=hW.1;have:=hW.2;omega);have n2:1<=N2/\N2<=65536:=(by have:=hH.1;have:=hH.2;omega);refine (fun hT:Told (kD o N1)/\Told (kE o N2)/\(kD o N1).n=N1/\(kE o N2).n=N2=>⟨hT.1,hT.2.1,hT.2.2.1,hT.2.2.2,ho,hW,hH⟩) ?_;by_cases h3:o.f0=3
 . obtain ⟨a1,a2,a3,a4,a5,a6⟩:=ho.2.2.2.2 h3;obtain ⟨M1,e1⟩:∃ M:Nat,o.f7=M:=⟨o.f7.toNat,by omega⟩;obtain ⟨M2,e2⟩:∃ M:Nat,o.f8=M:=⟨o.f8.toNat,by omega⟩;have q1:okR o.f6 N1 M1:=⟨a5,a6,hW.1,hW.2,by omega,by omega⟩;have q2:okR o.f6 N2 M2:=⟨a5,a6,hH.1,hH.2,by omega,by omega⟩;have hs:iR o N1 N2=if gK o.f6 N1 M1 0 M1=0 then gK o.f6 N2 M2 0 M2 else gK o.f6 N1 M1 0 M1:=by
     unfold iR acM adU;rw [if_pos ⟨ho,hW,hH⟩,if_neg (fun h=>h.1 h3),if_pos h3,if_pos h3,e1,e2];rfl
   rw [hs] at h;have ex:kD o N1=iC o.f6 N1 M1 M1:=(by unfold kD;rw [if_pos h3,e1];rfl);have ey:kE o N2=iC o.f6 N2 M2 M2:=(by unfold kE;rw [if_pos h3,e2];rfl);rw [ex,ey];by_cases k1:gK o.f6 N1 M1 0 M1=0
   . rw [if_pos k1] at h;exact ⟨alZ q1 k1,alZ q2 h,agL _ _ _ _,agL _ _ _ _⟩
   . rw [if_neg k1] at h;exact absurd h k1
 . obtain ⟨hw,hu,hv,lu,lv⟩:=abJ o hI l4 l5;rw [abE ho hW hH h3] at h;have ex:kD o N1=iK N1 (((jl o).1.length / 2:Nat):Int) (iM (jl o).1) N1:=(by unfold kD;rw [if_neg h3];rfl);have ey:kE o N2=iK N2 (((jl o).2.1.length / 2:Nat):Int) (iM (jl o).2.1) N2:=(by unfold kE;rw [if_neg h3];rfl);rw [ex,ey];by_cases k0:(jl o).2.2=0
   . rw [if_pos k0] at h;by_cases k1:iO (jl o).1 N1=0
     . rw [if_pos k1] at h;exact ⟨al0 n1.1 n1.2 hu k1,al0 n2.1 n2.2 hv h,agM _ _ _ _,agM _ _ _ _⟩
     . rw [if_neg k1] at h;exact absurd h k1
   . rw [if_neg k0] at h;exact absurd h k0
def toO (o:S47):adH:=⟨o.f0,o.f1,o.f2,o.f3,o.f4,o.f5,o.f6,o.f7,o.f8⟩
theorem auq (l:List S47) {i:Nat} (h:i < l.length):oC (l.map toO) (i:Int)=toO (dX l (i:Int)):=by
 unfold oC dX;rw [Int.toNat_natCast,List.getD_eq_getElem?_getD,List.getD_eq_getElem?_getD,List.getElem?_map,List.getElem?_eq_getElem h];rfl
structure ag8 where
 x:List lY
 y:List lY
 nx:Int
 ny:Int
 bd:Int
def ac1:Kd ag8:=Kd.iso (Kd.pair (Kd.slice 138 aaA) (Kd.pair (Kd.slice 138 aaA) (Kd.pair (Kd.int .i64) (Kd.pair (Kd.int .i64) (Kd.int .i64))))) (fun s:ag8=>(s.x,s.y,s.nx,s.ny,s.bd))
theorem mW.bound {w:World} {base:Nat} {v:Value} {xs:List lY} (h:mW w base v xs):Kd.R aaA 138 w base (fun k=>base<=k/\k < w.heap.size) v xs:=Kd.dU (Kd.jZ h) (fun _ hk=>⟨hk.1,hk.2.2.1⟩)
theorem apW {w:World} {base:Nat} {s:ag8} {v1 v2:Value} (hx:mW w base v1 s.x) (hz:mW w base v2 s.y):ac1.M w base (fun k=>base<=k/\k < w.heap.size) s [v1,v2,.int .i64 s.nx,.int .i64 s.ny,.int .i64 s.bd] :=
 ⟨_,_,rfl,⟨v1,rfl,hx.bound⟩,⟨_,_,rfl,⟨v2,rfl,hz.bound⟩,⟨_,_,rfl,rfl,⟨_,_,rfl,rfl,rfl⟩⟩⟩⟩
theorem ar7:(Tryz.prog.info? 41).map (fun i=>(i.zero,i.size,i.bytes))=some (some (.agg #[.slice none 0 0,.slice none 0 0,.int .i64 0,.int .i64 0,.int .i64 0]),5,72):=by kernel_rfl
theorem aur:(Tryz.prog.info? 111).map (fun i=>(i.zero,i.size,i.bytes))=some (some (.agg #[.int .i64 0,.int .i64 0,.int .i64 0,.int .i64 0,.slice none 0 0,.slice none 0 0,.int .i64 0,.int .i64 0,.int .i64 0]),9,104):=by kernel_rfl
theorem ail (a b c:Int):eG.f 2 a b c=some (aai a b c):=by
 unfold aai jX.f eG.f;by_cases h1:a>=1;rotate_left
 . rw [if_pos (by omega),if_neg h1,eG.j0,if_pos rfl];rfl
 by_cases h2:a<=65536;rotate_left
 . rw [if_neg (by omega),if_pos (by omega),if_pos h1,if_neg h2,eG.j0,if_pos rfl];rfl
 by_cases h3:b>=1;rotate_left
 . rw [if_neg (by omega),if_neg (by omega),if_pos (by omega),if_pos h1,if_pos h2,if_neg h3,eG.j0,if_pos rfl];rfl
 by_cases h4:b<=65536;rotate_left
 . rw [if_neg (by omega),if_neg (by omega),if_neg (by omega),if_pos h1,if_pos h2,if_pos h3,if_neg h4,decide_eq_true (by omega),eG.j0,if_pos rfl];rfl
 have ab:0<=a*b:=Int.mul_nonneg (by omega) (by omega);have ab2:a*b<=65536*65536:=Int.mul_le_mul h2 h4 (by omega) (by decide);rw [if_neg (by omega),if_neg (by omega),if_neg (by omega),if_pos h1,if_pos h2,if_pos h3,if_pos h4,decide_eq_false (by omega),eG.j0,if_neg (by decide),aC (x:=a*b) (by omega) (by omega)];generalize a*b=m at ab ab2;by_cases c1:c=1
 . subst c1;rw [if_pos rfl,if_pos rfl,if_neg (by decide),aC (x:=m*1) (by omega) (by omega)];refine congrArg some (decide_eq_decide.2 ?_);rw [aC (by decide) (by decide)];omega
 rw [if_neg c1,if_neg c1];by_cases c3:c=3
 . subst c3;rw [if_pos rfl,if_pos rfl,if_neg (by decide),aC (x:=m*3) (by omega) (by omega)];refine congrArg some (decide_eq_decide.2 ?_);rw [aC (by decide) (by decide)];omega
 . rw [if_neg c3,if_neg c3];rfl
def ame (l:List S47) (a b:Int) (i:Nat):ag8:=⟨(kD (dX l i) (nP l a b i).1).lines.map toR,(kE (dX l i) (nP l a b i).2).lines.map toR,(nP l a b i).1,(nP l a b i).2,(dX l i).f1⟩
def zF (l:List S47) (a b:Int) (n:Nat):List ag8:=(List.range n).map (ame l a b)
theorem agv (l:List S47) (a b:Int) (n:Nat):(zF l a b n).length=n:=by unfold zF;rw [List.length_map,List.length_range]
def aga (l:List S47) (a b ch:Int) (w:World) (e:Ending) (w':World):Prop:=Below w.heap.size w w' /\
  if qj l a b ch=0 then ∃ v,e = .returned (.tuple #[v,.int .i64 0])/\ac1.R 41 w' w.heap.size (fun _=>True) v (zF l a b l.length) else e = .returned (.tuple #[.slice none 0 0,.int .i64 (qj l a b ch)])
theorem abR {l:List S47} {a b ch c:Int} (he:qj l a b ch=c) (hc:c≠0) {w w':World} (hb:Below w.heap.size w w'):aga l a b ch w (.returned (.tuple #[.slice none 0 0,.int .i64 c])) w':=⟨hb,by rw [if_neg (by rw [he];exact hc),he]⟩
theorem amP {l:List S47} {a b ch:Int} (he:qj l a b ch=0) {w w':World} (hb:Below w.heap.size w w') {v:Value} (hr:ac1.R 41 w' w.heap.size (fun _=>True) v (zF l a b l.length)):aga l a b ch w (.returned (.tuple #[v,.int .i64 0])) w':=⟨hb,by rw [if_pos he];exact ⟨v,rfl,hr⟩⟩
theorem apX (l:List S47) (A0:Option Addr) (c0:Nat) (a b ch:Int) (w:World) (hr:Kd.C ab3 w A0 l.length (l.map toO)) (hc:l.length<=c0) (hI:∀ j:Nat,j < l.length->opI (dX l j)/\(dX l j).f4.length < 4611686018427387904/\(dX l j).f5.length < 4611686018427387904) :
   Calls Tryz.prog 15 #[.slice A0 l.length c0,.int .i64 a,.int .i64 b,.int .i64 ch] w (aga l a b ch w):=by
 have HR:=aj.mk hr;have HC:=aj.mk hc;have HI:=aj.mk hI;have lm:=hr.2.1;clear hr hc hI;have mixed:Tryz.prog.follows .mixedOrders=true:=(by kernel_rfl);by_cases h16:(16:Int) < (l.length:Int)
 . have b16:decide ((16:Int) < (l.length:Int))=true:=decide_eq_true h16;have agO:decide (16 < l.length)=true:=decide_eq_true (by omega);go_enter Tryz.func15,Tryz.ntmps15;go_wp2;go_ret2;exact abR (by unfold qj;exact if_pos h16) (by decide) (Below.refl _ _)
 have b16:decide ((16:Int) < (l.length:Int))=false:=decide_eq_false h16;have agO:decide (16 < l.length)=false:=decide_eq_false (by omega);have hf:=ail a b ch;obtain ⟨r,hr⟩:∃ r,r=aai a b ch:=⟨_,rfl⟩;rw [<- hr] at hf;have HF:=aj.mk hf;have HRR:=aj.mk hr;have HNN:=aj.mk h16;clear hf hr;cases r
 . go_enter Tryz.func15,Tryz.ntmps15;go_wp2_with (go_at_call 56;(with_reducible refine (eG.calls 2 a b ch _ _ HF.out).mono ?_);rintro e w' ⟨rfl,⟨nd,rfl⟩⟩);go_ret2;exact abR (by unfold qj;rw [if_neg (by have:=HNN.out;omega),<- HRR.out];rfl) (by decide) (by repeat (first|(with_reducible first|exact Below.refl _ _|apply aI|apply aZ)|exact Below.refl _ _))
 go_enter Tryz.func15,Tryz.ntmps15;go_wp2_with (go_at_call 56;(with_reducible refine (eG.calls 2 a b ch _ _ HF.out).mono ?_);rintro e w' ⟨rfl,⟨nd,rfl⟩⟩);have HCD:=aj.mk (show qj l a b ch=tC l ch a b 0 l.length by unfold qj;rw [if_neg (by have:=HNN.out;omega),<- HRR.out];rfl);clear HF HRR HNN;obtain ⟨n,hn⟩:∃ n,n=l.length:=⟨_,rfl⟩;rw [<- hn] at b16 agO h16 lm ⊢;have HN:=aj.mk hn;rw [<- hn] at HCD;clear hn b16 agO;go_loopg [1,2,10,25] n (fun kx s1 s2 s10 s25 wr=>∃ (i:Nat) (W H:Int) (ss:List ag8),s25 = .int .i64 i/\s1 = .int .i64 W/\s2 = .int .i64 H/\i<=n/\n - i<=kx/\aj (nP l a b i=(W,H))/\aj (Below w.heap.size w wr)/\aj (ac1.R 41 wr w.heap.size (fun _=>True) s10 ss)/\aj (ss=zF l a b i)/\aj (qj l a b ch=tC l ch a b i (n - i)))
 case atStart =>
   refine ⟨0,a,b,[],rfl,rfl,rfl,by omega,by omega,⟨rfl⟩,⟨?_⟩,⟨Kd.jY _ _ _ _ _⟩,⟨rfl⟩,HCD⟩;repeat (first|(with_reducible first|exact Below.refl _ _|apply aT|apply aI|apply aZ)|exact Below.refl _ _)
 case round =>
   obtain ⟨i,W,H,ss,rfl,rfl,rfl,i1,i2,HS,HB,HO,HL,HK⟩:=hrel;have wi:IntKind.i64.wrap ((i:Int)+1)=(i:Int)+1:=(by rw [jS];exact aC (by omega) (by omega));by_cases hlt:(i:Int) < (n:Int);rotate_left
   . have him:i=n:=(by omega);subst him;have hz:qj l a b ch=0:=(by rw [HK.out,Nat.sub_self];rfl);have HZ:=aj.mk hz;clear hz;go_wp2;go_ret2;exact amP HZ.out HB.out (by rw [<- HN.out,<- HL.out];exact HO.out)
   have p1:(0<=(i:Int)):=(by omega);obtain ⟨hio,hi4,hi5⟩:=HI.out i (by have:=HN.out;omega);obtain ⟨ad,A4,c4,A5,c5,e0,x0,x1,x2,x3,x4,x5,x6,x7,x8,l4,g4,l5,g5⟩:=atT (Kd.bQ HR.out HB.out) (i:Int) p1 (by have:=HN.out;omega);cases e0;obtain ⟨o,ho⟩:∃ o,o=dX l (i:Int):=⟨_,rfl⟩;rw [auq l (show i < l.length by have:=HN.out;omega)] at x0 x1 x2 x3 x4 x5 x6 x7 x8 l4 g4 l5 g5;rw [<- ho] at x0 x1 x2 x3 x4 x5 x6 x7 x8 l4 g4 l5 g5;unfold toO at x0 x1 x2 x3 x4 x5 x6 x7 x8 l4 g4 l5 g5;simp only at x0 x1 x2 x3 x4 x5 x6 x7 x8 l4 g4 l5 g5;rw [<- ho] at hio hi4 hi5;obtain ⟨p,hp⟩:∃ p,p=o.f4.length:=⟨_,rfl⟩;obtain ⟨q,hq⟩:∃ q,q=o.f5.length:=⟨_,rfl⟩;have hmk:=fun w' (hb:Below wr.heap.size wr w')=>aoT o W H A4 c4 A5 c5 w' hio (Kd.bQ g4 hb) l4 (Kd.bQ g5 hb) l5 hi4 hi5;have hsz:=fun w' (hb:Below wr.heap.size wr w')=>qw.calls o.f0 o.f1 o.f2 o.f3 A4 c4 o.f4 A5 c5 o.f5 o.f6 o.f7 o.f8 W H (o9 o W H).1 (o9 o W H).2 w' (Kd.bQ g4 hb) l4 (Kd.bQ g5 hb) l5 (akh o W H);rw [<- hp,<- hq] at hmk hsz;rw [<- hp] at x4;rw [<- hq] at x5;have HMK:=aj.mk hmk;have HSZ:=aj.mk hsz;have HOO:=aj.mk ho;rw [Int.toNat_natCast] at x0 x1 x2 x3 x4 x5 x6 x7 x8;have q0:i < n:=(by omega);have qd:decide (i < n)=true:=decide_eq_true q0;clear hmk hsz ho hp hq hio hi4 hi5 l4 g4 l5 g5;unfold opV at HMK;unfold abg at HMK;obtain ⟨c,hcc⟩:∃ c,c=iR o W H:=⟨_,rfl⟩;rw [<- hcc] at HMK;have HCC:=aj.mk hcc;have alh:=aj.mk (show ame l a b i=⟨(kD o W).lines.map toR,(kE o H).lines.map toR,W,H,o.f1⟩ by unfold ame;rw [HS.out,<- HOO.out]);have hcd:tC l ch a b i (n - i)=if c=0 then if aai (o9 o W H).1 (o9 o W H).2 ch=true then tC l ch a b (i+1) (n - (i+1)) else 5 else c:=by
     rw [show n - i=(n - (i+1))+1 by omega,tC,nP,HS.out,<- HOO.out,<- HCC.out]
   have HCF:=aj.mk (HK.out.trans hcd);clear hcc hcd HK;obtain ⟨lx,htx⟩:∃ t,t=(kD o W).lines.map toR:=⟨_,rfl⟩;obtain ⟨lz,hty⟩:∃ t,t=(kE o H).lines.map toR:=⟨_,rfl⟩;rw [<- htx,<- hty] at HMK alh;clear htx hty;go_upto_region 9 with fail;have hr:=heap_alloc_new wr (.cells #[.int .i64 o.f0,.int .i64 o.f1,.int .i64 o.f2,.int .i64 o.f3,.slice A4 p c4,.slice A5 q c5,.int .i64 o.f6,.int .i64 o.f7,.int .i64 o.f8] 111);have BA:=aj.mk (aT (Below.refl wr.heap.size wr) (.cells #[.int .i64 o.f0,.int .i64 o.f1,.int .i64 o.f2,.int .i64 o.f3,.slice A4 p c4,.slice A5 q c5,.int .i64 o.f6,.int .i64 o.f7,.int .i64 o.f8] 111));obtain ⟨g,hg⟩:∃ g,g=wr.heap.size:=⟨_,rfl⟩;rw [<- hg] at hr ⊢;generalize wr.alloc (.cells #[.int .i64 o.f0,.int .i64 o.f1,.int .i64 o.f2,.int .i64 o.f3,.slice A4 p c4,.slice A5 q c5,.int .i64 o.f6,.int .i64 o.f7,.int .i64 o.f8] 111)=w2 at hr BA ⊢;have z0:w2.cell? ⟨g,0,none⟩=some (.int .i64 o.f0):=(au hr 0).trans rfl;have z1:w2.cell? ⟨g,1,none⟩=some (.int .i64 o.f1):=(au hr 1).trans rfl;have z2:w2.cell? ⟨g,2,none⟩=some (.int .i64 o.f2):=(au hr 2).trans rfl;have z3:w2.cell? ⟨g,3,none⟩=some (.int .i64 o.f3):=(au hr 3).trans rfl;have z4:w2.cell? ⟨g,4,none⟩=some (.slice A4 p c4):=(au hr 4).trans rfl;have z5:w2.cell? ⟨g,5,none⟩=some (.slice A5 q c5):=(au hr 5).trans rfl;have z6:w2.cell? ⟨g,6,none⟩=some (.int .i64 o.f6):=(au hr 6).trans rfl;have z7:w2.cell? ⟨g,7,none⟩=some (.int .i64 o.f7):=(au hr 7).trans rfl;have z8:w2.cell? ⟨g,8,none⟩=some (.int .i64 o.f8):=(au hr 8).trans rfl;have HR2:=aj.mk hr;have HGG:=aj.mk hg;clear x0 x1 x2 x3 x4 x5 x6 x7 x8 hr hg;by_cases hc0:c=0;rotate_left
   . have bc1:(c == 0)=false:=(by simpa using hc0);have bc2:(c != 0)=true:=(by simpa using hc0);have HC0:=aj.mk hc0;have HZ:=aj.mk (show qj l a b ch=c by rw [HCF.out,if_neg hc0]);simp only [if_neg hc0] at HMK;clear hc0;go_upto_region 10 with (go_at_call 57;refine (HMK.out _ BA.out).mono ?_;rintro e w4 ⟨hb4,rfl⟩;have B4:=aj.mk (ak BA.out hb4);clear hb4);clear z0 z1 z2 z3 z4 z5 z6 z7 z8;go_wp2;go_ret2;exact abR HZ.out HC0.out (aT (ak HB.out B4.out) _)
   simp only [if_pos hc0] at HMK;rw [if_pos hc0] at HCF;subst hc0;go_upto_region 10 with (go_at_call 57;refine (HMK.out _ BA.out).mono ?_;rintro e w4 ⟨hb4,_,_,rfl,hx,hz⟩;obtain ⟨Ax,cx,rfl,-,-⟩:=hx.slice;obtain ⟨Az,cz,rfl,-,-⟩:=hz.slice;have B4:=aj.mk (ak BA.out hb4);have HB4:=aj.mk hb4;have HXX:=aj.mk hx;have HZZ:=aj.mk hz;clear hb4 hx hz);clear z0 z1 z2 z3 z4 z5 z6 z7 z8;have hx:=HXX.out;have hz:=HZZ.out;clear HXX HZZ;obtain ⟨st,hst⟩:∃ st:ag8,st=⟨lx,lz,W,H,o.f1⟩:=⟨_,rfl⟩;have hM:=apW (s:=⟨lx,lz,W,H,o.f1⟩) hx hz;rw [<- hst] at hM;have hr5:=heap_alloc_new w4 (.cells #[.slice Ax lx.length cx,.slice Az lz.length cz,.int .i64 W,.int .i64 H,.int .i64 o.f1] 41);have B5:=aj.mk (aT HB4.out (.cells #[.slice Ax lx.length cx,.slice Az lz.length cz,.int .i64 W,.int .i64 H,.int .i64 o.f1] 41));have HM5:=aj.mk (Kd.aaz hM (aT (Below.refl w4.heap.size w4) (.cells #[.slice Ax lx.length cx,.slice Az lz.length cz,.int .i64 W,.int .i64 H,.int .i64 o.f1] 41)));have HST:=aj.mk hst;obtain ⟨r,hrr⟩:∃ r,r=w4.heap.size:=⟨_,rfl⟩;rw [<- hrr] at hr5 ⊢;generalize w4.alloc (.cells #[.slice Ax lx.length cx,.slice Az lz.length cz,.int .i64 W,.int .i64 H,.int .i64 o.f1] 41)=w5 at hr5 B5 HM5 ⊢;have HR5:=aj.mk hr5;have hq5:=(B5.out.block g (bD HR2.out)).trans HR2.out;have z0:w5.cell? ⟨g,0,none⟩=some (.int .i64 o.f0):=(au hq5 0).trans rfl;have z1:w5.cell? ⟨g,1,none⟩=some (.int .i64 o.f1):=(au hq5 1).trans rfl;have z2:w5.cell? ⟨g,2,none⟩=some (.int .i64 o.f2):=(au hq5 2).trans rfl;have z3:w5.cell? ⟨g,3,none⟩=some (.int .i64 o.f3):=(au hq5 3).trans rfl;have z4:w5.cell? ⟨g,4,none⟩=some (.slice A4 p c4):=(au hq5 4).trans rfl;have z5:w5.cell? ⟨g,5,none⟩=some (.slice A5 q c5):=(au hq5 5).trans rfl;have z6:w5.cell? ⟨g,6,none⟩=some (.int .i64 o.f6):=(au hq5 6).trans rfl;have z7:w5.cell? ⟨g,7,none⟩=some (.int .i64 o.f7):=(au hq5 7).trans rfl;have z8:w5.cell? ⟨g,8,none⟩=some (.int .i64 o.f8):=(au hq5 8).trans rfl;obtain ⟨W1,hW1⟩:∃ W1,W1=(o9 o W H).1:=⟨_,rfl⟩;obtain ⟨H1,hH1⟩:∃ H1,H1=(o9 o W H).2:=⟨_,rfl⟩;rw [<- hW1,<- hH1] at HSZ HCF;have HWH:=aj.mk (And.intro hW1 hH1);have hf:=ail W1 H1 ch;obtain ⟨rb,hrb⟩:∃ r,r=aai W1 H1 ch:=⟨_,rfl⟩;rw [<- hrb] at hf HCF;have HF:=aj.mk hf;clear hrb;have HB5:=aj.mk (ak BA.out B5.out);clear hx hz hst hM hrr hr5 hq5 hW1 hH1 hf HMK B4;cases rb
   . go_wp2_with (first
       | (go_at_call 58;(with_reducible refine (HSZ.out _ HB5.out).mono ?_);rintro e w6 ⟨rfl,hb6⟩;have HB6:=aj.mk (ak HB5.out hb6);clear hb6)
       | (go_at_call 56;(with_reducible refine (eG.calls 2 W1 H1 ch _ _ HF.out).mono ?_);rintro e w' ⟨rfl,⟨nd2,rfl⟩⟩))
     go_ret2;exact abR (HCF.out.trans (by simp)) (by decide) (by repeat (first|(with_reducible first|exact ak HB.out HB6.out|apply aI|apply aZ)|exact ak HB.out HB6.out))
   go_upto_region 15 with (first
       | (go_at_call 58;(with_reducible refine (HSZ.out _ HB5.out).mono ?_);rintro e w6 ⟨rfl,hb6⟩;have HB6:=aj.mk (ak HB5.out hb6);have hq6:=(hb6.block r (bD HR5.out)).trans HR5.out;have HQ6:=aj.mk hq6;have HM6:=aj.mk (Kd.aaz HM5.out hb6);clear hb6 hq6)
       | (go_at_call 56;(with_reducible refine (eG.calls 2 W1 H1 ch _ _ HF.out).mono ?_);rintro e w' ⟨rfl,⟨nd2,rfl⟩⟩))
   have hq7:(w6.drewN nd2).heap[r]? = some (.cells #[.slice Ax lx.length cx,.slice Az lz.length cz,.int .i64 W,.int .i64 H,.int .i64 o.f1] 41 (0,0)):=(by simpa using HQ6.out);have B7:=aj.mk (aI HB6.out nd2);have HM7:=aj.mk (Kd.aaz HM6.out (aI (Below.refl w6.heap.size w6) nd2));generalize w6.drewN nd2=w7 at hq7 B7 HM7 ⊢;obtain ⟨y0,y1,y2,y3,y4⟩:=cells5 hq7;have HO7:=aj.mk (Kd.jc HO.out B7.out);have BW7:=aj.mk (ak HB.out B7.out);have HSS:=aj.mk (show ss.length<=16 by rw [HL.out,agv];omega);have HPM:=aj.mk (show ac1.M w7 w.heap.size (fun k=>w2.heap.size<=k/\k < w4.heap.size) st [.slice Ax lx.length cx,.slice Az lz.length cz,.int .i64 W,.int .i64 H,.int .i64 o.f1] by have h:=ac1.qP (Nat.le_trans HB.out.size BA.out.size) HM7.out;have e:=HST.out;subst e;exact h)
   have HOK:=aj.mk (show ∀ k,(w2.heap.size<=k/\k < w4.heap.size)->True/\some k≠u10.ownBlock by
     intro k hk;refine ⟨trivial,fun h => ?_⟩;have h1:=(Kd.jZ HO.out).1 k h.symm;have h2:=BA.out.size;omega)
   clear z0 z1 z2 z3 z4 z5 z6 z7 z8 hq7;go_upto_region 16 with (at_builtin;refine Kd.kW ac1 (w0:=w) w.heap.size rfl (.tmp 51) (.tmp 53) 29 41 (.agg #[.slice none 0 0,.slice none 0 0,.int .i64 0,.int .i64 0,.int .i64 0]) 72 rfl Tryz.underlying29 ar7 rfl (by decide) (by omega) u10 ss st [.slice Ax lx.length cx,.slice Az lz.length cz,.int .i64 W,.int .i64 H,.int .i64 o.f1] (fun _=>True) (fun k=>w2.heap.size<=k/\k < w4.heap.size) rfl rfl HPM.out HOK.out (fun _ _=>trivial) HO7.out BW7.out BW7.out.size (by have:=HSS.out;omega) ?_;intro v1 w8 ho8 hb8 hg8 ali;have HO8:=aj.mk ho8;have HB8:=aj.mk hb8;clear ho8 hb8 hg8 ali);go_wp2;go_roundg (n - (i+1))
   case measure=>omega
   case rel =>
     refine ⟨i+1,W1,H1,ss ++ [st],by simp,rfl,rfl,by omega,Nat.le_refl _,⟨?_⟩,HB8,HO8,⟨?_⟩,⟨HCF.out.trans (by simp)⟩⟩
     . rw [nP,HS.out,<- HOO.out,HWH.out.1,HWH.out.2]
     . rw [HL.out,HST.out,<- alh.out];unfold zF;rw [List.range_succ,List.map_append];rfl
theorem ar8 {w:World} {A:Option Addr} {n:Nat} {rows:List (List Value)} {l:List S47} (h:Kd.C (Kd.raw 9) w A n rows) (hl:rows.length=l.length) (hK:∀ (j:Nat) (row:List Value),rows[j]? = some row->ab3.K w (toO (dX l (j:Int))) row):Kd.C ab3 w A n (l.map toO):=by
 obtain ⟨h1,h2,h3⟩:=h;refine ⟨by rw [List.length_map,<- hl];exact h1,h2,fun h0 => ?_⟩;obtain ⟨a,e,h4⟩:=h3 h0;refine ⟨a,e,fun j p hp => ?_⟩;rw [List.getElem?_map] at hp;obtain ⟨o,ho,rfl⟩:=Option.map_eq_some_iff.1 hp;have hj:j < l.length:=(List.getElem?_eq_some_iff.1 ho).1;have hrow:rows[j]? = some (rows[j]'(by rw [hl];exact hj)):=List.getElem?_eq_getElem _;have e2:dX l (j:Int)=o:=by
   unfold dX;rw [Int.toNat_natCast,List.getD_eq_getElem?_getD,ho];rfl
 obtain ⟨c,c1,c2,c3⟩:=h4 j _ hrow;have hk:=hK j _ hrow;rw [e2,<- c2.1] at hk;exact ⟨c,c1,hk,c3⟩
theorem aus (l:List S47) (A0:Option Addr) (c0:Nat) (w:World) (hr:Kd.C k47 w A0 l.length l) (hc:l.length<=c0) (lm2:l.length<=18) :
   Calls Tryz.prog 16 #[.slice A0 l.length c0] w fun e w'=>Below w.heap.size w w'/\∃ A c,e = .returned (.slice A l.length c)/\l.length<=c/\Kd.C ab3 w' A l.length (l.map toO):=by
 have HR:=aj.mk hr;obtain ⟨n,hn⟩:∃ n,n=l.length:=⟨_,rfl⟩;have HN:=aj.mk hn;rw [<- hn] at hc lm2 ⊢;clear hr hn;have mixed:Tryz.prog.follows .mixedOrders=true:=(by kernel_rfl);go_enter Tryz.func16,Tryz.ntmps16;go_upto_region 3 with fail;go_loopg [3,8] n (fun kx s3 s8 wr=>∃ (i:Nat) (rows:List (List Value)),s8 = .int .i64 i/\i<=n/\n - i<=kx/\aj (Below w.heap.size w wr)/\aj (Kd.R (Kd.raw 9) 111 wr w.heap.size (fun _=>True) s3 rows)/\aj (rows.length=i)/\aj (∀ (j:Nat) (row:List Value),rows[j]? = some row->ab3.K w (toO (dX l (j:Int))) row))
 case atStart=>exact ⟨0,[],rfl,by omega,by omega,⟨Below.refl _ _⟩,⟨Kd.jY _ _ _ _ _⟩,⟨rfl⟩,⟨fun j row h=>by simp at h⟩⟩
 case round =>
   obtain ⟨i,rows,rfl,i1,i2,HB,HO,HL,HK⟩:=hrel;have wi:IntKind.i64.wrap ((i:Int)+1)=(i:Int)+1:=(by rw [jS];exact aC (by omega) (by omega));by_cases hlt:(i:Int) < (n:Int);rotate_left
   . have him:i=n:=(by omega);subst him;obtain ⟨A,cp,rfl,h3,h4⟩:=Kd.rO HO.out;have H3:=aj.mk h3;have H4:=aj.mk h4;clear h3 h4;go_wp2;go_ret;have hl2:rows.length=l.length:=(by rw [HL.out,HN.out]);refine ⟨HB.out,A,cp,by rw [HL.out];rfl,by rw [<- HL.out];exact H3.out,?_⟩;rw [<- HL.out];exact ar8 H4.out hl2 (fun j row h=>ab3.rM HB.out (HK.out j row h))
   have p1:(0<=(i:Int)):=(by omega);obtain ⟨ad,A4,c4,A5,c5,e0,x0,x1,x2,x3,x4,x5,x6,x7,x8,l4,g4,l5,g5⟩:=akW HR.out (i:Int) p1 (by have:=HN.out;omega);cases e0;rw [Int.toNat_natCast] at x0 x1 x2 x3 x4 x5 x6 x7 x8;replace x0:=(HB.out.cell (World.block_lt_of_cell? w _ x0)).trans x0;replace x1:=(HB.out.cell (World.block_lt_of_cell? w _ x1)).trans x1;replace x2:=(HB.out.cell (World.block_lt_of_cell? w _ x2)).trans x2;replace x3:=(HB.out.cell (World.block_lt_of_cell? w _ x3)).trans x3;replace x4:=(HB.out.cell (World.block_lt_of_cell? w _ x4)).trans x4;replace x5:=(HB.out.cell (World.block_lt_of_cell? w _ x5)).trans x5;replace x6:=(HB.out.cell (World.block_lt_of_cell? w _ x6)).trans x6;replace x7:=(HB.out.cell (World.block_lt_of_cell? w _ x7)).trans x7;replace x8:=(HB.out.cell (World.block_lt_of_cell? w _ x8)).trans x8;obtain ⟨o,ho⟩:∃ o,o=dX l (i:Int):=⟨_,rfl⟩;rw [<- ho] at x0 x1 x2 x3 x4 x5 x6 x7 x8 l4 g4 l5 g5;have HKO:=aj.mk (show ab3.K w (toO (dX l (i:Int))) [.int .i64 o.f0,.int .i64 o.f1,.int .i64 o.f2,.int .i64 o.f3,.slice A4 o.f4.length c4,.slice A5 o.f5.length c5,.int .i64 o.f6,.int .i64 o.f7,.int .i64 o.f8] by rw [<- ho];exact atS w (toO o) l4 g4 l5 g5);obtain ⟨p,hp⟩:∃ p,p=o.f4.length:=⟨_,rfl⟩;obtain ⟨q,hq⟩:∃ q,q=o.f5.length:=⟨_,rfl⟩;rw [<- hp] at x4 HKO;rw [<- hq] at x5 HKO;have q0:i < n:=(by omega);have qd:decide (i < n)=true:=decide_eq_true q0;have RF:=aj.mk (fun w'=>amO o.f0 o.f1 o.f2 o.f3 A4 p c4 A5 q c5 o.f6 o.f7 o.f8 w');clear ho hp hq l4 g4 l5 g5;unfold opV at RF;go_upto_region 5 with fail;have hr:=heap_alloc_new wr (.cells #[.int .i64 o.f0,.int .i64 o.f1,.int .i64 o.f2,.int .i64 o.f3,.slice A4 p c4,.slice A5 q c5,.int .i64 o.f6,.int .i64 o.f7,.int .i64 o.f8] 47);have BA:=aj.mk (aT (Below.refl wr.heap.size wr) (.cells #[.int .i64 o.f0,.int .i64 o.f1,.int .i64 o.f2,.int .i64 o.f3,.slice A4 p c4,.slice A5 q c5,.int .i64 o.f6,.int .i64 o.f7,.int .i64 o.f8] 47));obtain ⟨g,hg⟩:∃ g,g=wr.heap.size:=⟨_,rfl⟩;rw [<- hg] at hr ⊢;generalize wr.alloc (.cells #[.int .i64 o.f0,.int .i64 o.f1,.int .i64 o.f2,.int .i64 o.f3,.slice A4 p c4,.slice A5 q c5,.int .i64 o.f6,.int .i64 o.f7,.int .i64 o.f8] 47)=w2 at hr BA ⊢;obtain ⟨z0,z1,z2,z3,z4,z5,z6,z7,z8⟩:=cells9 hr;have HSS:=aj.mk (show rows.length<=18 by rw [HL.out];omega);clear x0 x1 x2 x3 x4 x5 x6 x7 x8 hr hg;have HPM:=aj.mk (show ∀ w',(Kd.raw 9).M w' w.heap.size (fun _=>False) [.int .i64 o.f0,.int .i64 o.f1,.int .i64 o.f2,.int .i64 o.f3,.slice A4 p c4,.slice A5 q c5,.int .i64 o.f6,.int .i64 o.f7,.int .i64 o.f8] [.int .i64 o.f0,.int .i64 o.f1,.int .i64 o.f2,.int .i64 o.f3,.slice A4 p c4,.slice A5 q c5,.int .i64 o.f6,.int .i64 o.f7,.int .i64 o.f8] from fun _=>⟨rfl,rfl,by simp [Value.oneCell']⟩)
   go_upto_region 6 with (first
     | (go_at_call 59;(with_reducible refine (RF.out _).mono ?_);rintro e w3 ⟨rfl,hb3⟩;have B3:=aj.mk (ak BA.out hb3);have HO3:=aj.mk (Kd.jc HO.out (ak BA.out hb3));have BW3:=aj.mk (ak HB.out (ak BA.out hb3));clear hb3)
     | (at_builtin;refine Kd.kW (Kd.raw 9) (w0:=w) w.heap.size rfl (.tmp 12) (.tmp 15) 32 111 (.agg #[.int .i64 0,.int .i64 0,.int .i64 0,.int .i64 0,.slice none 0 0,.slice none 0 0,.int .i64 0,.int .i64 0,.int .i64 0]) 104 rfl Tryz.underlying32 aur rfl (by decide) (by omega) u3 rows [.int .i64 o.f0,.int .i64 o.f1,.int .i64 o.f2,.int .i64 o.f3,.slice A4 p c4,.slice A5 q c5,.int .i64 o.f6,.int .i64 o.f7,.int .i64 o.f8] [.int .i64 o.f0,.int .i64 o.f1,.int .i64 o.f2,.int .i64 o.f3,.slice A4 p c4,.slice A5 q c5,.int .i64 o.f6,.int .i64 o.f7,.int .i64 o.f8] (fun _=>True) (fun _=>False) rfl rfl (HPM.out _) (fun _ hk=>hk.elim) (fun _ _=>trivial) HO3.out BW3.out BW3.out.size (by have:=HSS.out;omega) ?_;intro v1 w8 ho8 hb8 hg8 ali;have HO8:=aj.mk ho8;have HB8:=aj.mk hb8;clear ho8 hb8 hg8 ali))
   go_wp2;go_roundg (n - (i+1))
   case measure=>omega
   case rel =>
     refine ⟨i+1,rows ++ [_],by simp,by omega,Nat.le_refl _,HB8,HO8,⟨by rw [List.length_append,HL.out];rfl⟩,⟨fun j row h => ?_⟩⟩;by_cases c:j < rows.length
     . rw [List.getElem?_append_left c] at h;exact HK.out j row h
     . rw [List.getElem?_append_right (by omega)] at h;have hj:j - rows.length=0:=by
         have:=(List.getElem?_eq_some_iff.1 h).1;simp at this;omega
       have hji:j=i:=(by rw [HL.out] at hj c;omega);rw [hj] at h;simp at h;rw [<- h,hji];exact HKO.out
end Go.Proofs.YtpondkggmcmpfaaGreatDoor.QA
