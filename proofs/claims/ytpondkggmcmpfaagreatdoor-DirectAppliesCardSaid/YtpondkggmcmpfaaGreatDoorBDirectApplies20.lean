/- Joined by wip/tools/bundle.py out of: TZn TO TS TT. -/
import Derived.Test.YtpondkggmcmpfaaGreatDoorBDirectApplies18
import Derived.Test.YtpondkggmcmpfaaGreatDoorBDirectApplies19
set_option maxHeartbeats 8000000
set_option maxRecDepth 100000
namespace Go.Proofs.YtpondkggmcmpfaaGreatDoor.QA
open Go.RowKit Go.Proofs.YtpondkggmcmpfaaGreatDoorW.PrintWords Go.Proofs.YtpondkggmcmpfaaGreatDoorW.PrintLast Go.Proofs.YtpondkggmcmpfaaGreatDoorW.PrintMore Go.Proofs.YtpondkggmcmpfaaGreatDoor.T
set_option linter.unusedVariables false
set_option linter.unusedSimpArgs false
theorem agi {o:S47} {W H:Int} (ho:ab6 o) (hW:oW W) (hH:oW H) (h3:o.f0≠3):jD o W H=if (kL o).2.2=0 then if jG (kL o).1 W=0 then jG (kL o).2.1 H else jG (kL o).1 W else (kL o).2.2:=by
 unfold jD afC ahS;rw [if_pos ⟨ho,hW,hH⟩,if_neg h3,if_neg h3];by_cases c:(kL o).2.2=0
 . rw [if_neg (fun h=>h.2 c),if_pos c]
 . rw [if_pos ⟨h3,c⟩,if_neg c]
theorem apM {o:S47} (h:opI o) (l4:o.f4.length < 4611686018427387904) (l5:o.f5.length < 4611686018427387904) (k0:0<=o.f0) (k2:o.f0 < 3):∃ u v c,avD o.f0 o.f2 o.f3 o.f4 o.f5 u v c/\c=(kL o).2.2/\(c=0->u=(kL o).1/\v=(kL o).2.1):=by
 obtain ⟨i0,i1,i2,i3,i4,i5,i6,i7,i8⟩:=h;have hk:o.f0=0\/o.f0=1\/o.f0=2:=(by omega);unfold kL avD;rcases hk with e|e|e
 . simp only [e,if_pos];exact ⟨_,_,_,.inl ⟨trivial,rfl,72000,(alR (Nat.le_refl _) i2).trans rfl⟩,rfl,fun _=>⟨rfl,rfl⟩⟩
 . rw [e,if_neg (by decide),if_pos rfl];exact ⟨_,_,_,.inr (.inl ⟨rfl,rfl,3000,(amT (Nat.le_refl _) i3).trans rfl⟩),rfl,fun _=>⟨rfl,rfl⟩⟩
 . rw [e,if_neg (by decide),if_neg (by decide)];refine ⟨(pW o.f4).1,(pW o.f5).1,if (pW o.f4).2=0 then (pW o.f5).2 else (pW o.f4).2,.inr (.inr ⟨rfl,o.f4.length+o.f5.length+200,(pW o.f4).2,(pW o.f5).2,(ac4 (by omega) l4 i4).trans rfl,(ac4 (by omega) l5 i5).trans rfl,rfl⟩),?_,?_⟩
   . by_cases c:(pW o.f4).2=0
     . rw [if_pos c,if_pos c]
     . rw [if_neg c,if_neg c]
   . intro hc;by_cases c:(pW o.f4).2=0
     . rw [if_pos c];exact ⟨rfl,rfl⟩
     . rw [if_neg c] at hc;exact absurd hc c
theorem ayd {α:Type} {c:Int} {l:List α}:(if c=0 then (l,(0:Int)) else ([],c))=(if c=0 then l else [],c):=by
 by_cases h:c=0
 . rw [if_pos h,if_pos h,h]
 . rw [if_neg h,if_neg h]
theorem asf (o:S47) (W H:Int) (A4:Option Addr) (c4:Nat) (A5:Option Addr) (c5:Nat) (w:World) (hI:opI o) (hx:Kd.C (Kd.int .i64) w A4 o.f4.length o.f4) (lx:o.f4.length<=c4) (hy:Kd.C (Kd.int .i64) w A5 o.f5.length o.f5) (ly:o.f5.length<=c5) (l4:o.f4.length < 4611686018427387904) (l5:o.f5.length < 4611686018427387904) :
   Calls Tryz.prog 57 #[opV o.f0 o.f1 o.f2 o.f3 A4 o.f4.length c4 A5 o.f5.length c5 o.f6 o.f7 o.f8,.int .i64 W,.int .i64 H] w (acK o W H w):=by
 have sT:∀ {n:Int},oW n->bQ.f n=some true:=fun h=>by rw [agh];exact congrArg some (decide_eq_true h)
 have sF:∀ {n:Int},¬ oW n->bQ.f n=some false:=fun h=>by rw [agh];exact congrArg some (decide_eq_false h)
 by_cases k1:o.f0 < 0
 . exact yD _ _ _ _ A4 _ c4 A5 _ c5 _ _ _ W H o w (rY o W H (fun h=>by have:=h.1.1;omega)) (.inl k1)
 by_cases k2:3 < o.f0
 . exact yD _ _ _ _ A4 _ c4 A5 _ c5 _ _ _ W H o w (rY o W H (fun h=>by have:=h.1.2.1;omega)) (.inr (.inl ⟨k1,k2⟩))
 by_cases b1:o.f1 < 0
 . exact yD _ _ _ _ A4 _ c4 A5 _ c5 _ _ _ W H o w (rY o W H (fun h=>by have:=h.1.2.2.1;omega)) (.inr (.inr (.inl ⟨k1,k2,b1⟩)))
 by_cases b2:2 < o.f1
 . exact yD _ _ _ _ A4 _ c4 A5 _ c5 _ _ _ W H o w (rY o W H (fun h=>by have:=h.1.2.2.2.1;omega)) (.inr (.inr (.inr (.inl ⟨k1,k2,b1,b2⟩))))
 by_cases hW:oW W;rotate_left
 . exact yD _ _ _ _ A4 _ c4 A5 _ c5 _ _ _ W H o w (rY o W H (fun h=>hW h.2.1)) (.inr (.inr (.inr (.inr (.inl ⟨k1,k2,b1,b2,sF hW⟩)))))
 by_cases hH:oW H;rotate_left
 . exact yD _ _ _ _ A4 _ c4 A5 _ c5 _ _ _ W H o w (rY o W H (fun h=>hH h.2.2)) (.inr (.inr (.inr (.inr (.inr ⟨k1,k2,b1,b2,sT hW,sF hH⟩)))))
 by_cases h3:o.f0=3
 . rw [h3];by_cases a1:oW o.f7;rotate_left
   . exact acB _ _ _ A4 _ c4 A5 _ c5 _ _ _ W H o w (rY o W H (fun h=>a1 ⟨(h.1.2.2.2.2 h3).1,(h.1.2.2.2.2 h3).2.1⟩)) b1 b2 (sT hW) (sT hH) (.inl (sF a1))
   by_cases a2:oW o.f8;rotate_left
   . exact acB _ _ _ A4 _ c4 A5 _ c5 _ _ _ W H o w (rY o W H (fun h=>a2 ⟨(h.1.2.2.2.2 h3).2.2.1,(h.1.2.2.2.2 h3).2.2.2.1⟩)) b1 b2 (sT hW) (sT hH) (.inr (.inl ⟨sT a1,sF a2⟩))
   by_cases a3:o.f6 < 0
   . exact acB _ _ _ A4 _ c4 A5 _ c5 _ _ _ W H o w (rY o W H (fun h=>by have:=(h.1.2.2.2.2 h3).2.2.2.2.1;omega)) b1 b2 (sT hW) (sT hH) (.inr (.inr (.inl ⟨sT a1,sT a2,a3⟩)))
   by_cases a4:2 < o.f6
   . exact acB _ _ _ A4 _ c4 A5 _ c5 _ _ _ W H o w (rY o W H (fun h=>by have:=(h.1.2.2.2.2 h3).2.2.2.2.2;omega)) b1 b2 (sT hW) (sT hH) (.inr (.inr (.inr ⟨sT a1,sT a2,a3,a4⟩)))
   obtain ⟨M1,e1⟩:∃ M:Nat,o.f7=M:=⟨o.f7.toNat,by have:=a1.1;omega⟩;obtain ⟨M2,e2⟩:∃ M:Nat,o.f8=M:=⟨o.f8.toNat,by have:=a2.1;omega⟩;have q1:okR o.f6 W M1:=⟨by omega,by omega,hW.1,hW.2,by rw [<- e1];exact a1.1,by rw [<- e1];exact a1.2⟩;have q2:okR o.f6 H M2:=⟨by omega,by omega,hH.1,hH.2,by rw [<- e2];exact a2.1,by rw [<- e2];exact a2.2⟩;obtain ⟨K1,x1⟩:=aeC q1;obtain ⟨K2,x2⟩:=aeC q2;rw [ayd] at x1 x2;have ho:ab6 o:=⟨by omega,by omega,by omega,by omega,fun _=>⟨a1.1,a1.2,a2.1,a2.2,by omega,by omega⟩⟩;have hs:jD o W H=if iY o.f6 W M1 0 M1=0 then iY o.f6 H M2 0 M2 else iY o.f6 W M1 0 M1:=by
     unfold jD afC ahS;rw [if_pos ⟨ho,hW,hH⟩,if_neg (fun h=>h.1 h3),if_pos h3,if_pos h3,e1,e2];rfl
   exact alS _ _ _ A4 _ c4 A5 _ c5 _ _ _ W H o w b1 b2 (sT hW) (sT hH) (sT a1) (sT a2) a3 a4 rfl _ _ (jc o.f6 W M1 M1) (jc o.f6 H M2 M2) _ _ K1 K2 (by rw [e1];exact x1) (by rw [e2];exact x2) (fun h=>if_pos h) (fun h=>if_pos h) hs (by unfold mJ;rw [if_pos h3,e1];rfl) (by unfold mM;rw [if_pos h3,e2];rfl)
 . obtain ⟨hwx,hu,hv,lu,lv⟩:=afB o hI l4 l5;obtain ⟨N1,rfl⟩:∃ N:Nat,W=N:=⟨W.toNat,by have:=hW.1;omega⟩;obtain ⟨N2,rfl⟩:∃ N:Nat,H=N:=⟨H.toNat,by have:=hH.1;omega⟩;have ho:ab6 o:=⟨by omega,by omega,by omega,by omega,fun h=>absurd h h3⟩;have hs:=agi ho hW hH h3;obtain ⟨u,v,c,hR,hc,huv⟩:=apM hI l4 l5 (by omega) (by omega);refine alT _ _ _ _ A4 c4 _ A5 c5 _ _ _ _ N1 N2 u v c o w k1 k2 b1 b2 (sT hW) (sT hH) (by have:=hW.1;have:=hW.2;omega) (by have:=hH.1;have:=hH.2;omega) h3 hR hx lx hy ly (fun h => ?_) rfl ?_ (fun h => ?_) (fun h => ?_)
   . obtain ⟨rfl,rfl⟩:=huv h;exact ⟨hu,lu,hv,lv⟩
   . rw [hs,<- hc];by_cases h:c=0
     . obtain ⟨rfl,rfl⟩:=huv h;rfl
     . rw [if_neg h,if_neg h]
   . obtain ⟨rfl,rfl⟩:=huv h;unfold mJ;rw [if_neg h3];rfl
   . obtain ⟨rfl,rfl⟩:=huv h;unfold mM;rw [if_neg h3];rfl
theorem aDP {w0 w:World} {N r t:Nat} {u0 u1 u2 u3 u4 u5 u6 u7 u8:Value} (h:w.heap[r]? = some (.cells #[u0,u1,u2,u3,u4,u5,u6,u7,u8] t (0,0))) (hb:Below N w0 w) (hr:N<=r) (v0 v1 v2 v3 v4 v5 v6 v7 v8:Value) :
   ∃ w6,((((((((w.setCell ⟨r,0,none⟩ v0).setCell ⟨r,1,none⟩ v1).setCell ⟨r,2,none⟩ v2).setCell ⟨r,3,none⟩ v3).setCell ⟨r,4,none⟩ v4).setCell ⟨r,5,none⟩ v5).setCell ⟨r,6,none⟩ v6).setCell ⟨r,7,none⟩ v7).setCell ⟨r,8,none⟩ v8=w6/\w6.heap[r]? = some (.cells #[v0,v1,v2,v3,v4,v5,v6,v7,v8] t (0,0))/\Below N w0 w6:=⟨_,rfl,by simpa using (gW (gW (gW (gW (gW (gW (gW (gW (gW h 0 v0) 1 v1) 2 v2) 3 v3) 4 v4) 5 v5) 6 v6) 7 v7) 8 v8),(((((((((hb.setCell (p:=⟨r,0,none⟩) hr v0).setCell (p:=⟨r,1,none⟩) hr v1).setCell (p:=⟨r,2,none⟩) hr v2).setCell (p:=⟨r,3,none⟩) hr v3).setCell (p:=⟨r,4,none⟩) hr v4).setCell (p:=⟨r,5,none⟩) hr v5).setCell (p:=⟨r,6,none⟩) hr v6).setCell (p:=⟨r,7,none⟩) hr v7).setCell (p:=⟨r,8,none⟩) hr v8)⟩
theorem aye {w:World} {g t:Nat} {v0 v1 v2 v3 v4 v5 v6 v7 v8:Value} (h:w.heap[g]? = some (.cells #[v0,v1,v2,v3,v4,v5,v6,v7,v8] t (0,0))):w.frozen? ⟨g,0,none⟩=false/\w.frozen? ⟨g,1,none⟩=false/\w.frozen? ⟨g,2,none⟩=false/\w.frozen? ⟨g,3,none⟩=false/\w.frozen? ⟨g,4,none⟩=false/\w.frozen? ⟨g,5,none⟩=false/\w.frozen? ⟨g,6,none⟩=false/\w.frozen? ⟨g,7,none⟩=false/\w.frozen? ⟨g,8,none⟩=false:=⟨aI h 0,aI h 1,aI h 2,aI h 3,aI h 4,aI h 5,aI h 6,aI h 7,aI h 8⟩
theorem apN {w:World} {v0 v1 v2 v3 v4 v5 v6 v7 v8:Value}:∃ W2 g,W2=(w.alloc (.cells #[v0,v1,v2,v3,v4,v5,v6,v7,v8] 47)).alloc (.cells #[.int .i64 0,.int .i64 0,.int .i64 0,.int .i64 0,.slice none 0 0,.slice none 0 0,.int .i64 0,.int .i64 0,.int .i64 0] 111)/\g=w.heap.size/\W2.heap[g]? = some (.cells #[v0,v1,v2,v3,v4,v5,v6,v7,v8] 47 (0,0))/\W2.heap[g+1]? = some (.cells #[.int .i64 0,.int .i64 0,.int .i64 0,.int .i64 0,.slice none 0 0,.slice none 0 0,.int .i64 0,.int .i64 0,.int .i64 0] 111 (0,0))/\Below w.heap.size w W2:=by
 refine ⟨_,_,rfl,rfl,?_,?_,aK (aK (Below.refl w.heap.size w) _) _⟩
 . rw [yw _ _ _ (by simp)];exact heap_alloc_new w _
 . exact uS _ _ _ (by simp)
theorem apO (k b s r:Int) (A4:Option Addr) (p c4:Nat) (A5:Option Addr) (q c5:Nat) (f ow oh:Int) (w:World) :
   Calls Tryz.prog 59 #[opV k b s r A4 p c4 A5 q c5 f ow oh] w fun e w'=>e = .returned (opV k b s r A4 p c4 A5 q c5 f ow oh)/\Below w.heap.size w w':=by
 obtain ⟨W2,g,e2,hg,h1,h2,hb2⟩:=apN (w:=w) (v0 := .int .i64 k) (v1 := .int .i64 b) (v2 := .int .i64 s) (v3 := .int .i64 r) (v4 := .slice A4 p c4) (v5 := .slice A5 q c5) (v6 := .int .i64 f) (v7 := .int .i64 ow) (v8 := .int .i64 oh);have HG1:=aj.mk (show w.heap.size<=g+1 by omega);have mixed:Tryz.prog.follows .mixedOrders=true:=(by kernel_rfl);have E2:=aj.mk e2;have HG:=aj.mk hg;have H1:=aj.mk h1;have H2:=aj.mk h2;have B2:=aj.mk hb2;clear e2 hg h1 h2 hb2;unfold opV;go_enter Tryz.func59,Tryz.ntmps59;go_upto_region 1 with fail;rw [<- HG.out,<- E2.out];clear HG E2;obtain ⟨z0,z1,z2,z3,z4,z5,z6,z7,z8⟩:=cells9 H1.out;obtain ⟨q0,q1,q2,q3,q4,q5,q6,q7,q8⟩:=cells9 H2.out;obtain ⟨f0,f1,f2,f3,f4,f5,f6,f7,f8⟩:=aye H2.out;go_wp2;clear z0 z1 z2 z3 z4 z5 z6 z7 z8 q0 q1 q2 q3 q4 q5 q6 q7 q8 f0 f1 f2 f3 f4 f5 f6 f7 f8;obtain ⟨w6,e6,hc,B6⟩:=aDP H2.out B2.out HG1.out (.int .i64 k) (.int .i64 b) (.int .i64 s) (.int .i64 r) (.slice A4 p c4) (.slice A5 q c5) (.int .i64 f) (.int .i64 ow) (.int .i64 oh);rw [e6];obtain ⟨z0,z1,z2,z3,z4,z5,z6,z7,z8⟩:=cells9 hc;refine bodyPost_ret (by simp [results,Tryz.results59,go_sem,z0,z1,z2,z3,z4,z5,z6,z7,z8];try rfl) rfl ?_;exact ⟨rfl,B6⟩
theorem aCp (W:World) (o:S47) (A4:Option Addr) (c4:Nat) (A5:Option Addr) (c5:Nat) (hx:Kd.C (Kd.int .i64) W A4 o.f4.length o.f4) (lx:o.f4.length<=c4) (hy:Kd.C (Kd.int .i64) W A5 o.f5.length o.f5) (ly:o.f5.length<=c5) :
   Kd.C k47 (W.alloc (.cells #[.int .i64 o.f0,.int .i64 o.f1,.int .i64 o.f2,.int .i64 o.f3,.slice A4 o.f4.length c4,.slice A5 o.f5.length c5,.int .i64 o.f6,.int .i64 o.f7,.int .i64 o.f8] 47 (0,0))) (some ⟨W.heap.size,0,none⟩) [o].length [o]:=by
 have hb:=aK (Below.refl W.heap.size W) (.cells #[.int .i64 o.f0,.int .i64 o.f1,.int .i64 o.f2,.int .i64 o.f3,.slice A4 o.f4.length c4,.slice A5 o.f5.length c5,.int .i64 o.f6,.int .i64 o.f7,.int .i64 o.f8] 47 (0,0));obtain ⟨z0,z1,z2,z3,z4,z5,z6,z7,z8⟩:=cells9 (heap_alloc_new W (.cells #[.int .i64 o.f0,.int .i64 o.f1,.int .i64 o.f2,.int .i64 o.f3,.slice A4 o.f4.length c4,.slice A5 o.f5.length c5,.int .i64 o.f6,.int .i64 o.f7,.int .i64 o.f8] 47 (0,0)));refine ⟨rfl,by simp,fun _=>⟨_,rfl,fun j p hp => ?_⟩⟩;have hj:j=0:=by
   have:=(List.getElem?_eq_some_iff.1 hp).1;simp at this;omega
 subst hj;simp at hp;subst hp;refine ⟨_,rfl,asR _ o lx (Kd.bD hx hb) ly (Kd.bD hy hb),fun i u hu => ?_⟩;have hi:i < 9:=(List.getElem?_eq_some_iff.1 hu).1;match i,hi,hu with
 | 0,_,hu=>rw [<- Option.some.inj hu];exact z0
 | 1,_,hu=>rw [<- Option.some.inj hu];exact z1
 | 2,_,hu=>rw [<- Option.some.inj hu];exact z2
 | 3,_,hu=>rw [<- Option.some.inj hu];exact z3
 | 4,_,hu=>rw [<- Option.some.inj hu];exact z4
 | 5,_,hu=>rw [<- Option.some.inj hu];exact z5
 | 6,_,hu=>rw [<- Option.some.inj hu];exact z6
 | 7,_,hu=>rw [<- Option.some.inj hu];exact z7
 | 8,_,hu=>rw [<- Option.some.inj hu];exact z8
theorem amU (o:S47) (W H:Int):ru.f o.f0 o.f1 o.f2 o.f3 o.f4 o.f5 o.f6 o.f7 o.f8 W H=some ((qC o W H).1,(qC o W H).2):=by
 unfold ru.f qC;split <;> rfl
theorem ayf {o:S47} {W H:Int} (hI:opI o) (l4:o.f4.length < 4611686018427387904) (l5:o.f5.length < 4611686018427387904) (h:jD o W H=0):Told (mJ o W)/\Told (mM o H)/\(mJ o W).n=W/\(mM o H).n=H/\ab6 o/\oW W/\oW H:=by
 by_cases hh:ab6 o/\oW W/\oW H;rotate_left
 . rw [rY o W H hh] at h;exact absurd h (by decide)
 obtain ⟨ho,hW,hH⟩:=hh;obtain ⟨N1,rfl⟩:∃ N:Nat,W=N:=⟨W.toNat,by have:=hW.1;omega⟩;obtain ⟨N2,rfl⟩:∃ N:Nat,H=N:=⟨H.toNat,by have:=hH.1;omega⟩;have n1:1<=N1/\N1<=65536:=(by have:=hW.1;have:=hW.2;omega);have n2:1<=N2/\N2<=65536:=(by have:=hH.1;have:=hH.2;omega);refine (fun hT:Told (mJ o N1)/\Told (mM o N2)/\(mJ o N1).n=N1/\(mM o N2).n=N2=>⟨hT.1,hT.2.1,hT.2.2.1,hT.2.2.2,ho,hW,hH⟩) ?_;by_cases h3:o.f0=3
 . obtain ⟨a1,a2,a3,a4,a5,a6⟩:=ho.2.2.2.2 h3;obtain ⟨M1,e1⟩:∃ M:Nat,o.f7=M:=⟨o.f7.toNat,by omega⟩;obtain ⟨M2,e2⟩:∃ M:Nat,o.f8=M:=⟨o.f8.toNat,by omega⟩;have q1:okR o.f6 N1 M1:=⟨a5,a6,hW.1,hW.2,by omega,by omega⟩;have q2:okR o.f6 N2 M2:=⟨a5,a6,hH.1,hH.2,by omega,by omega⟩;have hs:jD o N1 N2=if iY o.f6 N1 M1 0 M1=0 then iY o.f6 N2 M2 0 M2 else iY o.f6 N1 M1 0 M1:=by
     unfold jD afC ahS;rw [if_pos ⟨ho,hW,hH⟩,if_neg (fun h=>h.1 h3),if_pos h3,if_pos h3,e1,e2];rfl
   rw [hs] at h;have ex:mJ o N1=jc o.f6 N1 M1 M1:=(by unfold mJ;rw [if_pos h3,e1];rfl);have ey:mM o N2=jc o.f6 N2 M2 M2:=(by unfold mM;rw [if_pos h3,e2];rfl);rw [ex,ey];by_cases k1:iY o.f6 N1 M1 0 M1=0
   . rw [if_pos k1] at h;exact ⟨ao1 q1 k1,ao1 q2 h,aiM _ _ _ _,aiM _ _ _ _⟩
   . rw [if_neg k1] at h;exact absurd h k1
 . obtain ⟨hw,hu,hv,lu,lv⟩:=afB o hI l4 l5;rw [agi ho hW hH h3] at h;have ex:mJ o N1=jv N1 (((kL o).1.length / 2:Nat):Int) (jB (kL o).1) N1:=(by unfold mJ;rw [if_neg h3];rfl);have ey:mM o N2=jv N2 (((kL o).2.1.length / 2:Nat):Int) (jB (kL o).2.1) N2:=(by unfold mM;rw [if_neg h3];rfl);rw [ex,ey];by_cases k0:(kL o).2.2=0
   . rw [if_pos k0] at h;by_cases k1:jG (kL o).1 N1=0
     . rw [if_pos k1] at h;exact ⟨ao2 n1.1 n1.2 hu k1,ao2 n2.1 n2.2 hv h,aiN _ _ _ _,aiN _ _ _ _⟩
     . rw [if_neg k1] at h;exact absurd h k1
   . rw [if_neg k0] at h;exact absurd h k0
def toO (o:S47):afo:=⟨o.f0,o.f1,o.f2,o.f3,o.f4,o.f5,o.f6,o.f7,o.f8⟩
theorem ayg (l:List S47) {i:Nat} (h:i < l.length):pF (l.map toO) (i:Int)=toO (fG l (i:Int)):=by
 unfold pF fG;rw [Int.toNat_natCast,List.getD_eq_getElem?_getD,List.getD_eq_getElem?_getD,List.getElem?_map,List.getElem?_eq_getElem h];rfl
structure ac6 where
 x:List jr
 y:List jr
 nx:Int
 ny:Int
 bd:Int
def abR:Kd ac6:=Kd.iso (Kd.pair (Kd.slice 138 tV) (Kd.pair (Kd.slice 138 tV) (Kd.pair (Kd.int .i64) (Kd.pair (Kd.int .i64) (Kd.int .i64))))) (fun s:ac6=>(s.x,s.y,s.nx,s.ny,s.bd))
def axy:ac6:=⟨[],[],0,0,0⟩
theorem asg {w:World} {s:ac6} {cs:List Value} (h:abR.K w s cs):∃ A1 c1 A2 c2,cs=[.slice A1 s.x.length c1,.slice A2 s.y.length c2,.int .i64 s.nx,.int .i64 s.ny,.int .i64 s.bd]/\s.x.length<=c1/\Kd.C tV w A1 s.x.length s.x/\s.y.length<=c2/\Kd.C tV w A2 s.y.length s.y:=by
 obtain ⟨_,_,rfl,⟨A1,c1,rfl,l1,g1⟩,⟨_,_,rfl,⟨A2,c2,rfl,l2,g2⟩,⟨_,_,rfl,rfl,⟨_,_,rfl,rfl,rfl⟩⟩⟩⟩:=h;exact ⟨A1,c1,A2,c2,rfl,l1,g1,l2,g2⟩
theorem nU.bound {w:World} {base:Nat} {v:Value} {xs:List jr} (h:nU w base v xs):Kd.R tV 138 w base (fun k=>base<=k/\k < w.heap.size) v xs:=Kd.dY (Kd.lg h) (fun _ hk=>⟨hk.1,hk.2.2.1⟩)
theorem ato {w:World} {base:Nat} {s:ac6} {v1 v2:Value} (hx:nU w base v1 s.x) (hz:nU w base v2 s.y):abR.M w base (fun k=>base<=k/\k < w.heap.size) s [v1,v2,.int .i64 s.nx,.int .i64 s.ny,.int .i64 s.bd] :=
 ⟨_,_,rfl,⟨v1,rfl,hx.bound⟩,⟨_,_,rfl,⟨v2,rfl,hz.bound⟩,⟨_,_,rfl,rfl,⟨_,_,rfl,rfl,rfl⟩⟩⟩⟩
theorem avR:(Tryz.prog.info? 41).map (fun i=>(i.zero,i.size,i.bytes))=some (some (.agg #[.slice none 0 0,.slice none 0 0,.int .i64 0,.int .i64 0,.int .i64 0]),5,72):=by kernel_rfl
theorem ayh:(Tryz.prog.info? 111).map (fun i=>(i.zero,i.size,i.bytes))=some (some (.agg #[.int .i64 0,.int .i64 0,.int .i64 0,.int .i64 0,.slice none 0 0,.slice none 0 0,.int .i64 0,.int .i64 0,.int .i64 0]),9,104):=by kernel_rfl
theorem akI (a b c:Int):fE.f 2 a b c=some (abC a b c):=by
 unfold abC kX.f fE.f;by_cases h1:a>=1;rotate_left
 . rw [if_pos (by omega),if_neg h1,fE.j0,if_pos rfl];rfl
 by_cases h2:a<=65536;rotate_left
 . rw [if_neg (by omega),if_pos (by omega),if_pos h1,if_neg h2,fE.j0,if_pos rfl];rfl
 by_cases h3:b>=1;rotate_left
 . rw [if_neg (by omega),if_neg (by omega),if_pos (by omega),if_pos h1,if_pos h2,if_neg h3,fE.j0,if_pos rfl];rfl
 by_cases h4:b<=65536;rotate_left
 . rw [if_neg (by omega),if_neg (by omega),if_neg (by omega),if_pos h1,if_pos h2,if_pos h3,if_neg h4,decide_eq_true (by omega),fE.j0,if_pos rfl];rfl
 have ab:0<=a*b:=Int.mul_nonneg (by omega) (by omega);have ab2:a*b<=65536*65536:=Int.mul_le_mul h2 h4 (by omega) (by decide);rw [if_neg (by omega),if_neg (by omega),if_neg (by omega),if_pos h1,if_pos h2,if_pos h3,if_pos h4,decide_eq_false (by omega),fE.j0,if_neg (by decide),aC (x:=a*b) (by omega) (by omega)];generalize a*b=m at ab ab2;by_cases c1:c=1
 . subst c1;rw [if_pos rfl,if_pos rfl,if_neg (by decide),aC (x:=m*1) (by omega) (by omega)];refine congrArg some (decide_eq_decide.2 ?_);rw [aC (by decide) (by decide)];omega
 rw [if_neg c1,if_neg c1];by_cases c3:c=3
 . subst c3;rw [if_pos rfl,if_pos rfl,if_neg (by decide),aC (x:=m*3) (by omega) (by omega)];refine congrArg some (decide_eq_decide.2 ?_);rw [aC (by decide) (by decide)];omega
 . rw [if_neg c3,if_neg c3];rfl
def afg (l:List S47) (a b:Int) (i:Nat):ac6:=⟨(mJ (fG l i) (oQ l a b i).1).lines.map toR,(mM (fG l i) (oQ l a b i).2).lines.map toR,(oQ l a b i).1,(oQ l a b i).2,(fG l i).f1⟩
def rF (l:List S47) (a b:Int) (n:Nat):List ac6:=(List.range n).map (afg l a b)
theorem aiw (l:List S47) (a b:Int) (n:Nat):(rF l a b n).length=n:=by unfold rF;rw [List.length_map,List.length_range]
def ah8 (l:List S47) (a b ch:Int) (w:World) (e:Ending) (w':World):Prop:=Below w.heap.size w w' /\
  if qW l a b ch=0 then ∃ v,e = .returned (.tuple #[v,.int .i64 0])/\abR.R 41 w' w.heap.size (fun _=>True) v (rF l a b l.length) else e = .returned (.tuple #[.slice none 0 0,.int .i64 (qW l a b ch)])
theorem ado {l:List S47} {a b ch c:Int} (he:qW l a b ch=c) (hc:c≠0) {w w':World} (hb:Below w.heap.size w w'):ah8 l a b ch w (.returned (.tuple #[.slice none 0 0,.int .i64 c])) w':=⟨hb,by rw [if_neg (by rw [he];exact hc),he]⟩
theorem apP {l:List S47} {a b ch:Int} (he:qW l a b ch=0) {w w':World} (hb:Below w.heap.size w w') {v:Value} (hr:abR.R 41 w' w.heap.size (fun _=>True) v (rF l a b l.length)):ah8 l a b ch w (.returned (.tuple #[v,.int .i64 0])) w':=⟨hb,by rw [if_pos he];exact ⟨v,rfl,hr⟩⟩
theorem atp (l:List S47) (A0:Option Addr) (c0:Nat) (a b ch:Int) (w:World) (hr:Kd.C adF w A0 l.length (l.map toO)) (hc:l.length<=c0) (hI:∀ j:Nat,j < l.length->opI (fG l j)/\(fG l j).f4.length < 4611686018427387904/\(fG l j).f5.length < 4611686018427387904) :
   Calls Tryz.prog 15 #[.slice A0 l.length c0,.int .i64 a,.int .i64 b,.int .i64 ch] w (ah8 l a b ch w):=by
 have HR:=aj.mk hr;have HC:=aj.mk hc;have HI:=aj.mk hI;have lm:=hr.2.1;clear hr hc hI;have mixed:Tryz.prog.follows .mixedOrders=true:=(by kernel_rfl);by_cases h16:(16:Int) < (l.length:Int)
 . have b16:decide ((16:Int) < (l.length:Int))=true:=decide_eq_true h16;have aiP:decide (16 < l.length)=true:=decide_eq_true (by omega);go_enter Tryz.func15,Tryz.ntmps15;go_wp2;go_ret2;exact ado (by unfold qW;exact if_pos h16) (by decide) (Below.refl _ _)
 have b16:decide ((16:Int) < (l.length:Int))=false:=decide_eq_false h16;have aiP:decide (16 < l.length)=false:=decide_eq_false (by omega);have hf:=akI a b ch;obtain ⟨r,hr⟩:∃ r,r=abC a b ch:=⟨_,rfl⟩;rw [<- hr] at hf;have HF:=aj.mk hf;have HRR:=aj.mk hr;have HNN:=aj.mk h16;clear hf hr;cases r
 . go_enter Tryz.func15,Tryz.ntmps15;go_wp2_with (go_at_call 56;(with_reducible refine (fE.calls 2 a b ch _ _ HF.out).mono ?_);rintro e w' ⟨rfl,⟨nd,rfl⟩⟩);go_ret2;exact ado (by unfold qW;rw [if_neg (by have:=HNN.out;omega),<- HRR.out];rfl) (by decide) (by repeat (first|(with_reducible first|exact Below.refl _ _|apply aJ|apply bC)|exact Below.refl _ _))
 go_enter Tryz.func15,Tryz.ntmps15;go_wp2_with (go_at_call 56;(with_reducible refine (fE.calls 2 a b ch _ _ HF.out).mono ?_);rintro e w' ⟨rfl,⟨nd,rfl⟩⟩);have HCD:=aj.mk (show qW l a b ch=uT l ch a b 0 l.length by unfold qW;rw [if_neg (by have:=HNN.out;omega),<- HRR.out];rfl);clear HF HRR HNN;obtain ⟨n,hn⟩:∃ n,n=l.length:=⟨_,rfl⟩;rw [<- hn] at b16 aiP h16 lm ⊢;have HN:=aj.mk hn;rw [<- hn] at HCD;clear hn b16 aiP;go_loopg [1,2,10,25] n (fun kx s1 s2 s10 s25 wr=>∃ (i:Nat) (W H:Int) (ss:List ac6),s25 = .int .i64 i/\s1 = .int .i64 W/\s2 = .int .i64 H/\i<=n/\n - i<=kx/\aj (oQ l a b i=(W,H))/\aj (Below w.heap.size w wr)/\aj (abR.R 41 wr w.heap.size (fun _=>True) s10 ss)/\aj (ss=rF l a b i)/\aj (qW l a b ch=uT l ch a b i (n - i)))
 case atStart =>
   refine ⟨0,a,b,[],rfl,rfl,rfl,by omega,by omega,⟨rfl⟩,⟨?_⟩,⟨Kd.kJ _ _ _ _ _⟩,⟨rfl⟩,HCD⟩;repeat (first|(with_reducible first|exact Below.refl _ _|apply aK|apply aJ|apply bC)|exact Below.refl _ _)
 case round =>
   obtain ⟨i,W,H,ss,rfl,rfl,rfl,i1,i2,HS,HB,HO,HL,HK⟩:=hrel;have wi:IntKind.i64.wrap ((i:Int)+1)=(i:Int)+1:=(by rw [mX];exact aC (by omega) (by omega));by_cases hlt:(i:Int) < (n:Int);rotate_left
   . have him:i=n:=(by omega);subst him;have hz:qW l a b ch=0:=(by rw [HK.out,Nat.sub_self];rfl);have HZ:=aj.mk hz;clear hz;go_wp2;go_ret2;exact apP HZ.out HB.out (by rw [<- HN.out,<- HL.out];exact HO.out)
   have p1:(0<=(i:Int)):=(by omega);obtain ⟨hio,hi4,hi5⟩:=HI.out i (by have:=HN.out;omega);obtain ⟨ad,A4,c4,A5,c5,e0,x0,x1,x2,x3,x4,x5,x6,x7,x8,l4,g4,l5,g5⟩:=axS (Kd.bD HR.out HB.out) (i:Int) p1 (by have:=HN.out;omega);cases e0;obtain ⟨o,ho⟩:∃ o,o=fG l (i:Int):=⟨_,rfl⟩;rw [ayg l (show i < l.length by have:=HN.out;omega)] at x0 x1 x2 x3 x4 x5 x6 x7 x8 l4 g4 l5 g5;rw [<- ho] at x0 x1 x2 x3 x4 x5 x6 x7 x8 l4 g4 l5 g5;unfold toO at x0 x1 x2 x3 x4 x5 x6 x7 x8 l4 g4 l5 g5;simp only at x0 x1 x2 x3 x4 x5 x6 x7 x8 l4 g4 l5 g5;rw [<- ho] at hio hi4 hi5;obtain ⟨p,hp⟩:∃ p,p=o.f4.length:=⟨_,rfl⟩;obtain ⟨q,hq⟩:∃ q,q=o.f5.length:=⟨_,rfl⟩;have hmk:=fun w' (hb:Below wr.heap.size wr w')=>asf o W H A4 c4 A5 c5 w' hio (Kd.bD g4 hb) l4 (Kd.bD g5 hb) l5 hi4 hi5;have hsz:=fun w' (hb:Below wr.heap.size wr w')=>ru.calls o.f0 o.f1 o.f2 o.f3 A4 c4 o.f4 A5 c5 o.f5 o.f6 o.f7 o.f8 W H (qC o W H).1 (qC o W H).2 w' (Kd.bD g4 hb) l4 (Kd.bD g5 hb) l5 (amU o W H);rw [<- hp,<- hq] at hmk hsz;rw [<- hp] at x4;rw [<- hq] at x5;have HMK:=aj.mk hmk;have HSZ:=aj.mk hsz;have HOO:=aj.mk ho;rw [Int.toNat_natCast] at x0 x1 x2 x3 x4 x5 x6 x7 x8;have q0:i < n:=(by omega);have qd:decide (i < n)=true:=decide_eq_true q0;clear hmk hsz ho hp hq hio hi4 hi5 l4 g4 l5 g5;unfold opV at HMK;unfold acK at HMK;obtain ⟨c,hcc⟩:∃ c,c=jD o W H:=⟨_,rfl⟩;rw [<- hcc] at HMK;have HCC:=aj.mk hcc;have aoe:=aj.mk (show afg l a b i=⟨(mJ o W).lines.map toR,(mM o H).lines.map toR,W,H,o.f1⟩ by unfold afg;rw [HS.out,<- HOO.out]);have hcd:uT l ch a b i (n - i)=if c=0 then if abC (qC o W H).1 (qC o W H).2 ch=true then uT l ch a b (i+1) (n - (i+1)) else 5 else c:=by
     rw [show n - i=(n - (i+1))+1 by omega,uT,oQ,HS.out,<- HOO.out,<- HCC.out]
   have HCF:=aj.mk (HK.out.trans hcd);clear hcc hcd HK;obtain ⟨lx,htx⟩:∃ t,t=(mJ o W).lines.map toR:=⟨_,rfl⟩;obtain ⟨lz,hty⟩:∃ t,t=(mM o H).lines.map toR:=⟨_,rfl⟩;rw [<- htx,<- hty] at HMK aoe;clear htx hty;go_upto_region 9 with fail;have hr:=heap_alloc_new wr (.cells #[.int .i64 o.f0,.int .i64 o.f1,.int .i64 o.f2,.int .i64 o.f3,.slice A4 p c4,.slice A5 q c5,.int .i64 o.f6,.int .i64 o.f7,.int .i64 o.f8] 111);have BA:=aj.mk (aK (Below.refl wr.heap.size wr) (.cells #[.int .i64 o.f0,.int .i64 o.f1,.int .i64 o.f2,.int .i64 o.f3,.slice A4 p c4,.slice A5 q c5,.int .i64 o.f6,.int .i64 o.f7,.int .i64 o.f8] 111));obtain ⟨g,hg⟩:∃ g,g=wr.heap.size:=⟨_,rfl⟩;rw [<- hg] at hr ⊢;generalize wr.alloc (.cells #[.int .i64 o.f0,.int .i64 o.f1,.int .i64 o.f2,.int .i64 o.f3,.slice A4 p c4,.slice A5 q c5,.int .i64 o.f6,.int .i64 o.f7,.int .i64 o.f8] 111)=w2 at hr BA ⊢;have z0:w2.cell? ⟨g,0,none⟩=some (.int .i64 o.f0):=(au hr 0).trans rfl;have z1:w2.cell? ⟨g,1,none⟩=some (.int .i64 o.f1):=(au hr 1).trans rfl;have z2:w2.cell? ⟨g,2,none⟩=some (.int .i64 o.f2):=(au hr 2).trans rfl;have z3:w2.cell? ⟨g,3,none⟩=some (.int .i64 o.f3):=(au hr 3).trans rfl;have z4:w2.cell? ⟨g,4,none⟩=some (.slice A4 p c4):=(au hr 4).trans rfl;have z5:w2.cell? ⟨g,5,none⟩=some (.slice A5 q c5):=(au hr 5).trans rfl;have z6:w2.cell? ⟨g,6,none⟩=some (.int .i64 o.f6):=(au hr 6).trans rfl;have z7:w2.cell? ⟨g,7,none⟩=some (.int .i64 o.f7):=(au hr 7).trans rfl;have z8:w2.cell? ⟨g,8,none⟩=some (.int .i64 o.f8):=(au hr 8).trans rfl;have HR2:=aj.mk hr;have HGG:=aj.mk hg;clear x0 x1 x2 x3 x4 x5 x6 x7 x8 hr hg;by_cases hc0:c=0;rotate_left
   . have bc1:(c == 0)=false:=(by simpa using hc0);have bc2:(c != 0)=true:=(by simpa using hc0);have HC0:=aj.mk hc0;have HZ:=aj.mk (show qW l a b ch=c by rw [HCF.out,if_neg hc0]);simp only [if_neg hc0] at HMK;clear hc0;go_upto_region 10 with (go_at_call 57;refine (HMK.out _ BA.out).mono ?_;rintro e w4 ⟨hb4,rfl⟩;have B4:=aj.mk (ak BA.out hb4);clear hb4);clear z0 z1 z2 z3 z4 z5 z6 z7 z8;go_wp2;go_ret2;exact ado HZ.out HC0.out (aK (ak HB.out B4.out) _)
   simp only [if_pos hc0] at HMK;rw [if_pos hc0] at HCF;subst hc0;go_upto_region 10 with (go_at_call 57;refine (HMK.out _ BA.out).mono ?_;rintro e w4 ⟨hb4,_,_,rfl,hx,hz⟩;obtain ⟨Ax,cx,rfl,-,-⟩:=hx.slice;obtain ⟨Az,cz,rfl,-,-⟩:=hz.slice;have B4:=aj.mk (ak BA.out hb4);have HB4:=aj.mk hb4;have HXX:=aj.mk hx;have HZZ:=aj.mk hz;clear hb4 hx hz);clear z0 z1 z2 z3 z4 z5 z6 z7 z8;have hx:=HXX.out;have hz:=HZZ.out;clear HXX HZZ;obtain ⟨st,hst⟩:∃ st:ac6,st=⟨lx,lz,W,H,o.f1⟩:=⟨_,rfl⟩;have hM:=ato (s:=⟨lx,lz,W,H,o.f1⟩) hx hz;rw [<- hst] at hM;have hr5:=heap_alloc_new w4 (.cells #[.slice Ax lx.length cx,.slice Az lz.length cz,.int .i64 W,.int .i64 H,.int .i64 o.f1] 41);have B5:=aj.mk (aK HB4.out (.cells #[.slice Ax lx.length cx,.slice Az lz.length cz,.int .i64 W,.int .i64 H,.int .i64 o.f1] 41));have HM5:=aj.mk (Kd.abX hM (aK (Below.refl w4.heap.size w4) (.cells #[.slice Ax lx.length cx,.slice Az lz.length cz,.int .i64 W,.int .i64 H,.int .i64 o.f1] 41)));have HST:=aj.mk hst;obtain ⟨r,hrr⟩:∃ r,r=w4.heap.size:=⟨_,rfl⟩;rw [<- hrr] at hr5 ⊢;generalize w4.alloc (.cells #[.slice Ax lx.length cx,.slice Az lz.length cz,.int .i64 W,.int .i64 H,.int .i64 o.f1] 41)=w5 at hr5 B5 HM5 ⊢;have HR5:=aj.mk hr5;have hq5:=(B5.out.block g (bI HR2.out)).trans HR2.out;have z0:w5.cell? ⟨g,0,none⟩=some (.int .i64 o.f0):=(au hq5 0).trans rfl;have z1:w5.cell? ⟨g,1,none⟩=some (.int .i64 o.f1):=(au hq5 1).trans rfl;have z2:w5.cell? ⟨g,2,none⟩=some (.int .i64 o.f2):=(au hq5 2).trans rfl;have z3:w5.cell? ⟨g,3,none⟩=some (.int .i64 o.f3):=(au hq5 3).trans rfl;have z4:w5.cell? ⟨g,4,none⟩=some (.slice A4 p c4):=(au hq5 4).trans rfl;have z5:w5.cell? ⟨g,5,none⟩=some (.slice A5 q c5):=(au hq5 5).trans rfl;have z6:w5.cell? ⟨g,6,none⟩=some (.int .i64 o.f6):=(au hq5 6).trans rfl;have z7:w5.cell? ⟨g,7,none⟩=some (.int .i64 o.f7):=(au hq5 7).trans rfl;have z8:w5.cell? ⟨g,8,none⟩=some (.int .i64 o.f8):=(au hq5 8).trans rfl;obtain ⟨W1,hW1⟩:∃ W1,W1=(qC o W H).1:=⟨_,rfl⟩;obtain ⟨H1,hH1⟩:∃ H1,H1=(qC o W H).2:=⟨_,rfl⟩;rw [<- hW1,<- hH1] at HSZ HCF;have HWH:=aj.mk (And.intro hW1 hH1);have hf:=akI W1 H1 ch;obtain ⟨rb,hrb⟩:∃ r,r=abC W1 H1 ch:=⟨_,rfl⟩;rw [<- hrb] at hf HCF;have HF:=aj.mk hf;clear hrb;have HB5:=aj.mk (ak BA.out B5.out);clear hx hz hst hM hrr hr5 hq5 hW1 hH1 hf HMK B4;cases rb
   . go_wp2_with (first
       | (go_at_call 58;(with_reducible refine (HSZ.out _ HB5.out).mono ?_);rintro e w6 ⟨rfl,hb6⟩;have HB6:=aj.mk (ak HB5.out hb6);clear hb6)
       | (go_at_call 56;(with_reducible refine (fE.calls 2 W1 H1 ch _ _ HF.out).mono ?_);rintro e w' ⟨rfl,⟨nd2,rfl⟩⟩))
     go_ret2;exact ado (HCF.out.trans (by simp)) (by decide) (by repeat (first|(with_reducible first|exact ak HB.out HB6.out|apply aJ|apply bC)|exact ak HB.out HB6.out))
   go_upto_region 15 with (first
       | (go_at_call 58;(with_reducible refine (HSZ.out _ HB5.out).mono ?_);rintro e w6 ⟨rfl,hb6⟩;have HB6:=aj.mk (ak HB5.out hb6);have hq6:=(hb6.block r (bI HR5.out)).trans HR5.out;have HQ6:=aj.mk hq6;have HM6:=aj.mk (Kd.abX HM5.out hb6);clear hb6 hq6)
       | (go_at_call 56;(with_reducible refine (fE.calls 2 W1 H1 ch _ _ HF.out).mono ?_);rintro e w' ⟨rfl,⟨nd2,rfl⟩⟩))
   have hq7:(w6.drewN nd2).heap[r]? = some (.cells #[.slice Ax lx.length cx,.slice Az lz.length cz,.int .i64 W,.int .i64 H,.int .i64 o.f1] 41 (0,0)):=(by simpa using HQ6.out);have B7:=aj.mk (aJ HB6.out nd2);have HM7:=aj.mk (Kd.abX HM6.out (aJ (Below.refl w6.heap.size w6) nd2));generalize w6.drewN nd2=w7 at hq7 B7 HM7 ⊢;obtain ⟨y0,y1,y2,y3,y4⟩:=cells5 hq7;have HO7:=aj.mk (Kd.jF HO.out B7.out);have BW7:=aj.mk (ak HB.out B7.out);have HSS:=aj.mk (show ss.length<=16 by rw [HL.out,aiw];omega);have HPM:=aj.mk (show abR.M w7 w.heap.size (fun k=>w2.heap.size<=k/\k < w4.heap.size) st [.slice Ax lx.length cx,.slice Az lz.length cz,.int .i64 W,.int .i64 H,.int .i64 o.f1] by have h:=abR.rZ (Nat.le_trans HB.out.size BA.out.size) HM7.out;have e:=HST.out;subst e;exact h)
   have HOK:=aj.mk (show ∀ k,(w2.heap.size<=k/\k < w4.heap.size)->True/\some k≠u10.ownBlock by
     intro k hk;refine ⟨trivial,fun h => ?_⟩;have h1:=(Kd.lg HO.out).1 k h.symm;have h2:=BA.out.size;omega)
   clear z0 z1 z2 z3 z4 z5 z6 z7 z8 hq7;go_upto_region 16 with (at_builtin;refine Kd.lU abR (w0:=w) w.heap.size rfl (.tmp 51) (.tmp 53) 29 41 (.agg #[.slice none 0 0,.slice none 0 0,.int .i64 0,.int .i64 0,.int .i64 0]) 72 rfl Tryz.underlying29 avR rfl (by decide) (by omega) u10 ss st [.slice Ax lx.length cx,.slice Az lz.length cz,.int .i64 W,.int .i64 H,.int .i64 o.f1] (fun _=>True) (fun k=>w2.heap.size<=k/\k < w4.heap.size) rfl rfl HPM.out HOK.out (fun _ _=>trivial) HO7.out BW7.out BW7.out.size (by have:=HSS.out;omega) ?_;intro v1 w8 ho8 hb8 hg8 aof;have HO8:=aj.mk ho8;have HB8:=aj.mk hb8;clear ho8 hb8 hg8 aof);go_wp2;go_roundg (n - (i+1))
   case measure=>omega
   case rel =>
     refine ⟨i+1,W1,H1,ss ++ [st],by simp,rfl,rfl,by omega,Nat.le_refl _,⟨?_⟩,HB8,HO8,⟨?_⟩,⟨HCF.out.trans (by simp)⟩⟩
     . rw [oQ,HS.out,<- HOO.out,HWH.out.1,HWH.out.2]
     . rw [HL.out,HST.out,<- aoe.out];unfold rF;rw [List.range_succ,List.map_append];rfl
theorem avS {w:World} {A:Option Addr} {n:Nat} {rows:List (List Value)} {l:List S47} (h:Kd.C (Kd.raw 9) w A n rows) (hl:rows.length=l.length) (hK:∀ (j:Nat) (row:List Value),rows[j]? = some row->adF.K w (toO (fG l (j:Int))) row):Kd.C adF w A n (l.map toO):=by
 obtain ⟨h1,h2,h3⟩:=h;refine ⟨by rw [List.length_map,<- hl];exact h1,h2,fun h0 => ?_⟩;obtain ⟨a,e,h4⟩:=h3 h0;refine ⟨a,e,fun j p hp => ?_⟩;rw [List.getElem?_map] at hp;obtain ⟨o,ho,rfl⟩:=Option.map_eq_some_iff.1 hp;have hj:j < l.length:=(List.getElem?_eq_some_iff.1 ho).1;have hrow:rows[j]? = some (rows[j]'(by rw [hl];exact hj)):=List.getElem?_eq_getElem _;have e2:fG l (j:Int)=o:=by
   unfold fG;rw [Int.toNat_natCast,List.getD_eq_getElem?_getD,ho];rfl
 obtain ⟨c,c1,c2,c3⟩:=h4 j _ hrow;have hk:=hK j _ hrow;rw [e2,<- c2.1] at hk;exact ⟨c,c1,hk,c3⟩
theorem ayi (l:List S47) (A0:Option Addr) (c0:Nat) (w:World) (hr:Kd.C k47 w A0 l.length l) (hc:l.length<=c0) (lm2:l.length<=18) :
   Calls Tryz.prog 16 #[.slice A0 l.length c0] w fun e w'=>Below w.heap.size w w'/\∃ A c,e = .returned (.slice A l.length c)/\l.length<=c/\Kd.C adF w' A l.length (l.map toO):=by
 have HR:=aj.mk hr;obtain ⟨n,hn⟩:∃ n,n=l.length:=⟨_,rfl⟩;have HN:=aj.mk hn;rw [<- hn] at hc lm2 ⊢;clear hr hn;have mixed:Tryz.prog.follows .mixedOrders=true:=(by kernel_rfl);go_enter Tryz.func16,Tryz.ntmps16;go_upto_region 3 with fail;go_loopg [3,8] n (fun kx s3 s8 wr=>∃ (i:Nat) (rows:List (List Value)),s8 = .int .i64 i/\i<=n/\n - i<=kx/\aj (Below w.heap.size w wr)/\aj (Kd.R (Kd.raw 9) 111 wr w.heap.size (fun _=>True) s3 rows)/\aj (rows.length=i)/\aj (∀ (j:Nat) (row:List Value),rows[j]? = some row->adF.K w (toO (fG l (j:Int))) row))
 case atStart=>exact ⟨0,[],rfl,by omega,by omega,⟨Below.refl _ _⟩,⟨Kd.kJ _ _ _ _ _⟩,⟨rfl⟩,⟨fun j row h=>by simp at h⟩⟩
 case round =>
   obtain ⟨i,rows,rfl,i1,i2,HB,HO,HL,HK⟩:=hrel;have wi:IntKind.i64.wrap ((i:Int)+1)=(i:Int)+1:=(by rw [mX];exact aC (by omega) (by omega));by_cases hlt:(i:Int) < (n:Int);rotate_left
   . have him:i=n:=(by omega);subst him;obtain ⟨A,cp,rfl,h3,h4⟩:=Kd.su HO.out;have H3:=aj.mk h3;have H4:=aj.mk h4;clear h3 h4;go_wp2;go_ret;have hl2:rows.length=l.length:=(by rw [HL.out,HN.out]);refine ⟨HB.out,A,cp,by rw [HL.out];rfl,by rw [<- HL.out];exact H3.out,?_⟩;rw [<- HL.out];exact avS H4.out hl2 (fun j row h=>adF.sZ HB.out (HK.out j row h))
   have p1:(0<=(i:Int)):=(by omega);obtain ⟨ad,A4,c4,A5,c5,e0,x0,x1,x2,x3,x4,x5,x6,x7,x8,l4,g4,l5,g5⟩:=anT HR.out (i:Int) p1 (by have:=HN.out;omega);cases e0;rw [Int.toNat_natCast] at x0 x1 x2 x3 x4 x5 x6 x7 x8;replace x0:=(HB.out.cell (World.block_lt_of_cell? w _ x0)).trans x0;replace x1:=(HB.out.cell (World.block_lt_of_cell? w _ x1)).trans x1;replace x2:=(HB.out.cell (World.block_lt_of_cell? w _ x2)).trans x2;replace x3:=(HB.out.cell (World.block_lt_of_cell? w _ x3)).trans x3;replace x4:=(HB.out.cell (World.block_lt_of_cell? w _ x4)).trans x4;replace x5:=(HB.out.cell (World.block_lt_of_cell? w _ x5)).trans x5;replace x6:=(HB.out.cell (World.block_lt_of_cell? w _ x6)).trans x6;replace x7:=(HB.out.cell (World.block_lt_of_cell? w _ x7)).trans x7;replace x8:=(HB.out.cell (World.block_lt_of_cell? w _ x8)).trans x8;obtain ⟨o,ho⟩:∃ o,o=fG l (i:Int):=⟨_,rfl⟩;rw [<- ho] at x0 x1 x2 x3 x4 x5 x6 x7 x8 l4 g4 l5 g5;have HKO:=aj.mk (show adF.K w (toO (fG l (i:Int))) [.int .i64 o.f0,.int .i64 o.f1,.int .i64 o.f2,.int .i64 o.f3,.slice A4 o.f4.length c4,.slice A5 o.f5.length c5,.int .i64 o.f6,.int .i64 o.f7,.int .i64 o.f8] by rw [<- ho];exact axR w (toO o) l4 g4 l5 g5);obtain ⟨p,hp⟩:∃ p,p=o.f4.length:=⟨_,rfl⟩;obtain ⟨q,hq⟩:∃ q,q=o.f5.length:=⟨_,rfl⟩;rw [<- hp] at x4 HKO;rw [<- hq] at x5 HKO;have q0:i < n:=(by omega);have qd:decide (i < n)=true:=decide_eq_true q0;have RF:=aj.mk (fun w'=>apO o.f0 o.f1 o.f2 o.f3 A4 p c4 A5 q c5 o.f6 o.f7 o.f8 w');clear ho hp hq l4 g4 l5 g5;unfold opV at RF;go_upto_region 5 with fail;have hr:=heap_alloc_new wr (.cells #[.int .i64 o.f0,.int .i64 o.f1,.int .i64 o.f2,.int .i64 o.f3,.slice A4 p c4,.slice A5 q c5,.int .i64 o.f6,.int .i64 o.f7,.int .i64 o.f8] 47);have BA:=aj.mk (aK (Below.refl wr.heap.size wr) (.cells #[.int .i64 o.f0,.int .i64 o.f1,.int .i64 o.f2,.int .i64 o.f3,.slice A4 p c4,.slice A5 q c5,.int .i64 o.f6,.int .i64 o.f7,.int .i64 o.f8] 47));obtain ⟨g,hg⟩:∃ g,g=wr.heap.size:=⟨_,rfl⟩;rw [<- hg] at hr ⊢;generalize wr.alloc (.cells #[.int .i64 o.f0,.int .i64 o.f1,.int .i64 o.f2,.int .i64 o.f3,.slice A4 p c4,.slice A5 q c5,.int .i64 o.f6,.int .i64 o.f7,.int .i64 o.f8] 47)=w2 at hr BA ⊢;obtain ⟨z0,z1,z2,z3,z4,z5,z6,z7,z8⟩:=cells9 hr;have HSS:=aj.mk (show rows.length<=18 by rw [HL.out];omega);clear x0 x1 x2 x3 x4 x5 x6 x7 x8 hr hg;have HPM:=aj.mk (show ∀ w',(Kd.raw 9).M w' w.heap.size (fun _=>False) [.int .i64 o.f0,.int .i64 o.f1,.int .i64 o.f2,.int .i64 o.f3,.slice A4 p c4,.slice A5 q c5,.int .i64 o.f6,.int .i64 o.f7,.int .i64 o.f8] [.int .i64 o.f0,.int .i64 o.f1,.int .i64 o.f2,.int .i64 o.f3,.slice A4 p c4,.slice A5 q c5,.int .i64 o.f6,.int .i64 o.f7,.int .i64 o.f8] from fun _=>⟨rfl,rfl,by simp [Value.oneCell']⟩)
   go_upto_region 6 with (first
     | (go_at_call 59;(with_reducible refine (RF.out _).mono ?_);rintro e w3 ⟨rfl,hb3⟩;have B3:=aj.mk (ak BA.out hb3);have HO3:=aj.mk (Kd.jF HO.out (ak BA.out hb3));have BW3:=aj.mk (ak HB.out (ak BA.out hb3));clear hb3)
     | (at_builtin;refine Kd.lU (Kd.raw 9) (w0:=w) w.heap.size rfl (.tmp 12) (.tmp 15) 32 111 (.agg #[.int .i64 0,.int .i64 0,.int .i64 0,.int .i64 0,.slice none 0 0,.slice none 0 0,.int .i64 0,.int .i64 0,.int .i64 0]) 104 rfl Tryz.underlying32 ayh rfl (by decide) (by omega) u3 rows [.int .i64 o.f0,.int .i64 o.f1,.int .i64 o.f2,.int .i64 o.f3,.slice A4 p c4,.slice A5 q c5,.int .i64 o.f6,.int .i64 o.f7,.int .i64 o.f8] [.int .i64 o.f0,.int .i64 o.f1,.int .i64 o.f2,.int .i64 o.f3,.slice A4 p c4,.slice A5 q c5,.int .i64 o.f6,.int .i64 o.f7,.int .i64 o.f8] (fun _=>True) (fun _=>False) rfl rfl (HPM.out _) (fun _ hk=>hk.elim) (fun _ _=>trivial) HO3.out BW3.out BW3.out.size (by have:=HSS.out;omega) ?_;intro v1 w8 ho8 hb8 hg8 aof;have HO8:=aj.mk ho8;have HB8:=aj.mk hb8;clear ho8 hb8 hg8 aof))
   go_wp2;go_roundg (n - (i+1))
   case measure=>omega
   case rel =>
     refine ⟨i+1,rows ++ [_],by simp,by omega,Nat.le_refl _,HB8,HO8,⟨by rw [List.length_append,HL.out];rfl⟩,⟨fun j row h => ?_⟩⟩;by_cases c:j < rows.length
     . rw [List.getElem?_append_left c] at h;exact HK.out j row h
     . rw [List.getElem?_append_right (by omega)] at h;have hj:j - rows.length=0:=by
         have:=(List.getElem?_eq_some_iff.1 h).1;simp at this;omega
       have hji:j=i:=(by rw [HL.out] at hj c;omega);rw [hj] at h;simp at h;rw [<- h,hji];exact HKO.out
end Go.Proofs.YtpondkggmcmpfaaGreatDoor.QA
