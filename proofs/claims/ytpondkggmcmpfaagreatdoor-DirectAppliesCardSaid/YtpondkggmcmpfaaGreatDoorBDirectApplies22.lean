/- Joined by wip/tools/bundle.py out of: TS5 TQ5. -/
import Derived.Test.YtpondkggmcmpfaaGreatDoorBDirectApplies20
import Derived.Test.YtpondkggmcmpfaaGreatDoorBDirectApplies21
set_option maxHeartbeats 8000000
set_option maxRecDepth 100000
namespace Go.Proofs.YtpondkggmcmpfaaGreatDoor.QA
open Go.RowKit Go.Proofs.YtpondkggmcmpfaaGreatDoorW.PrintWords Go.Proofs.YtpondkggmcmpfaaGreatDoorW.PrintLast Go.Proofs.YtpondkggmcmpfaaGreatDoorW.PrintMore Go.Proofs.YtpondkggmcmpfaaGreatDoor.T
set_option linter.unusedVariables false
set_option linter.unusedSimpArgs false
def aeD (l:List S47) (m:Img):Prop:=l.length<=4/\adB l 12=true/\qW l m.w m.h m.c=0
def azM (l:List S47) (m:Img) (w:World) (e:Ending) (w':World):Prop:=Below w.heap.size w w'/\∃ A2 c2 A4 c4,e = .returned (.tuple #[.slice A2 l.length c2,.slice A4 l.length c4,.bool true])/\l.length<=c2/\Kd.C adP w' A2 l.length (jm l m.w m.h l.length)/\l.length<=c4/\Kd.C abR w' A4 l.length (rF l m.w m.h l.length)
def azN (w:World) (e:Ending) (w':World):Prop:=Below w.heap.size w w'/\e = .returned (.tuple #[.slice none 0 0,.slice none 0 0,.bool false])
theorem atq (l:List S47) (A0:Option Addr) (c0:Nat) (b:Nat) (m:Img) (w:World) (hG:GL w) (hI:qX w b m) (hr:Kd.C k47 w A0 l.length l) (hc:l.length<=c0) (hO:∀ j:Nat,j < l.length->opI (fG l j)) :
   Calls Tryz.prog 34 #[.slice A0 l.length c0,.pointer (some ⟨b,0,none⟩)] w (fun e w'=>(aeD l m->azM l m w e w')/\(¬ aeD l m->azN w e w')):=by
 have LT:=aj.mk (fun w' (hb:Below w.heap.size w w')=>apb l A0 c0 12 w' (Kd.bD hr hb) hc);have lm:=hr.2.1;have mixed:Tryz.prog.follows .mixedOrders=true:=(by kernel_rfl);have B0:=aj.mk (Below.refl w.heap.size w);by_cases h4:(4:Int) < (l.length:Int)
 . have b4:decide ((4:Int) < (l.length:Int))=true:=decide_eq_true h4;have b4n:decide (4 < l.length)=true:=decide_eq_true (by omega);have no:¬ aeD l m:=fun h=>by have:=h.1;omega
   have NO:=aj.mk no;clear hG hI hr hc hO LT no;go_enter Tryz.func34,Tryz.ntmps34;go_wp2;go_ret3;exact ⟨fun h=>absurd h NO.out,fun _=>⟨B0.out,rfl⟩⟩
 have b4:decide ((4:Int) < (l.length:Int))=false:=decide_eq_false h4;have b4n:decide (4 < l.length)=false:=decide_eq_false (by omega);by_cases hlb:adB l 12=true;rotate_left
 . have no:¬ aeD l m:=fun h=>hlb h.2.1;have NO:=aj.mk no;have hlf:adB l 12=false:=(by simpa using hlb);rw [hlf] at LT;clear hG hI hr hc hO no hlb hlf;go_enter Tryz.func34,Tryz.ntmps34;go_wp2_with (go_at_call 13;(with_reducible refine (LT.out _ B0.out).mono ?_);rintro e w1 ⟨rfl,hb1⟩;have B1:=aj.mk hb1;clear hb1);go_ret3;exact ⟨fun h=>absurd h NO.out,fun _=>⟨B1.out,rfl⟩⟩
 have IW:=aj.mk (fun w' (hb:Below w.heap.size w w')=>wR b m w' (hI.below hb));have IH:=aj.mk (fun w' (hb:Below w.heap.size w w')=>uU b m w' (hI.below hb));have IC:=aj.mk (fun w' (hb:Below w.heap.size w w')=>qI b m w' (hI.below hb));have AL:=aj.mk (fun w' (hb:Below w.heap.size w w')=>ayW l A0 c0 m.w m.h m.c w' (hG.below hb) (Kd.bD hr hb) hc (fun j hj=>⟨hO j hj,by have:=(vZ hlb j hj).1;omega,by have:=(vZ hlb j hj).2.1;omega⟩));have RF:=aj.mk (fun w' (hb:Below w.heap.size w w')=>ayi l A0 c0 w' (Kd.bD hr hb) hc (by omega));have RA:=aj.mk (fun A c w' (h1:Kd.C adF w' A l.length (l.map toO)) (h2:l.length<=c)=>atp l A c m.w m.h m.c w' h1 h2 (fun j hj=>⟨hO j hj,by have:=(vZ hlb j hj).1;omega,by have:=(vZ hlb j hj).2.1;omega⟩));have OK:=aj.mk (show aeD l m↔qW l m.w m.h m.c=0 from ⟨fun h=>h.2.2,fun h=>⟨by omega,hlb,h⟩⟩);rw [hlb] at LT;unfold aq6 at AL;unfold ah8 at RA;unfold azM azN;clear hG hI hr hc hO hlb;obtain ⟨c,hcc⟩:∃ c,c=qW l m.w m.h m.c:=⟨_,rfl⟩;rw [<- hcc] at AL RA OK;obtain ⟨ss,hss⟩:∃ x,x=jm l m.w m.h l.length:=⟨_,rfl⟩;obtain ⟨rs,hrs⟩:∃ x,x=rF l m.w m.h l.length:=⟨_,rfl⟩;rw [<- hss] at AL ⊢;rw [<- hrs] at RA ⊢;have hsl:ss.length=l.length:=(by rw [hss,ajL]);have hrl:rs.length=l.length:=(by rw [hrs,aiw]);have HL:=aj.mk (And.intro hsl hrl);obtain ⟨mw,hmw⟩:∃ v,v=m.w:=⟨_,rfl⟩;obtain ⟨mh,hmh⟩:∃ v,v=m.h:=⟨_,rfl⟩;obtain ⟨mc,hmc⟩:∃ v,v=m.c:=⟨_,rfl⟩;rw [<- hmw] at IW AL RA;rw [<- hmh] at IH AL RA;rw [<- hmc] at IC AL RA;obtain ⟨n,hn⟩:∃ n,n=l.length:=⟨_,rfl⟩;rw [<- hn] at b4 b4n h4 lm AL LT RF RA HL ⊢;clear hcc hss hrs hsl hrl hmw hmh hmc hn;have e2:((n:Int) == (n:Int))=true:=(by simp);by_cases hc0:c=0;rotate_left
 . have NO:=aj.mk (fun h=>hc0 (OK.out.1 h));have bc1:(c == 0)=false:=(by simpa using hc0);simp only [if_neg hc0] at AL RA;clear hc0 OK;go_enter Tryz.func34,Tryz.ntmps34
   go_wp2_with (first
     | (go_at_call 13;(with_reducible refine (LT.out _ B0.out).mono ?_);rintro e w1 ⟨rfl,hb1⟩;have B1:=aj.mk hb1;clear hb1)
     | (go_at_call 46;(with_reducible refine (IW.out _ B3.out).mono ?_);rintro e w' ⟨rfl,rfl⟩)
     | (go_at_call 45;(with_reducible refine (IH.out _ B3.out).mono ?_);rintro e w' ⟨rfl,rfl⟩)
     | (go_at_call 47;(with_reducible refine (IC.out _ B3.out).mono ?_);rintro e w' ⟨rfl,rfl⟩)
     | (go_at_call 46;(with_reducible refine (IW.out _ B1.out).mono ?_);rintro e w' ⟨rfl,rfl⟩)
     | (go_at_call 45;(with_reducible refine (IH.out _ B1.out).mono ?_);rintro e w' ⟨rfl,rfl⟩)
     | (go_at_call 47;(with_reducible refine (IC.out _ B1.out).mono ?_);rintro e w' ⟨rfl,rfl⟩)
     | (go_at_call 14;(with_reducible refine (AL.out _ B1.out).mono ?_);rintro e w2 ⟨hb1,rfl⟩;have B2:=aj.mk (ak B1.out hb1);clear hb1)
     | (go_at_call 16;(with_reducible refine (RF.out _ B2.out).mono ?_);rintro e w3 ⟨hb1,A3,c3,rfl,h31,h32⟩;have B3:=aj.mk (ak B2.out hb1);have H3:=aj.mk (And.intro h31 h32);clear hb1 h31 h32)
     | (go_at_call 15;(with_reducible refine (RA.out _ _ _ H3.out.2 H3.out.1).mono ?_);rintro e w4 ⟨hb1,rfl⟩;have B4:=aj.mk (ak B3.out hb1);clear hb1))
   go_ret3;exact ⟨fun h=>absurd h NO.out,fun _=>⟨B4.out,rfl⟩⟩
 have YES:=aj.mk (OK.out.2 hc0);simp only [if_pos hc0] at AL RA;subst hc0;clear OK;go_enter Tryz.func34,Tryz.ntmps34
 go_wp2_with (first
   | (go_at_call 13;(with_reducible refine (LT.out _ B0.out).mono ?_);rintro e w1 ⟨rfl,hb1⟩;have B1:=aj.mk hb1;clear hb1)
   | (go_at_call 46;(with_reducible refine (IW.out _ B3.out).mono ?_);rintro e w' ⟨rfl,rfl⟩)
   | (go_at_call 45;(with_reducible refine (IH.out _ B3.out).mono ?_);rintro e w' ⟨rfl,rfl⟩)
   | (go_at_call 47;(with_reducible refine (IC.out _ B3.out).mono ?_);rintro e w' ⟨rfl,rfl⟩)
   | (go_at_call 46;(with_reducible refine (IW.out _ B1.out).mono ?_);rintro e w' ⟨rfl,rfl⟩)
   | (go_at_call 45;(with_reducible refine (IH.out _ B1.out).mono ?_);rintro e w' ⟨rfl,rfl⟩)
   | (go_at_call 47;(with_reducible refine (IC.out _ B1.out).mono ?_);rintro e w' ⟨rfl,rfl⟩)
   | (go_at_call 14;(with_reducible refine (AL.out _ B1.out).mono ?_);rintro e w2 ⟨hb1,_,rfl,hv⟩;obtain ⟨A2,c2,hv2,l2,g2c⟩:=Kd.su hv;rw [HL.out.1] at hv2 l2 g2c;subst hv2;have B2:=aj.mk (ak B1.out hb1);have G2:=aj.mk (And.intro l2 g2c);clear hb1 hv g2c l2)
   | (go_at_call 16;(with_reducible refine (RF.out _ B2.out).mono ?_);rintro e w3 ⟨hb1,A3,c3,rfl,h31,h32⟩;have B3:=aj.mk (ak B2.out hb1);have H3:=aj.mk (And.intro h31 h32);have G3:=aj.mk (And.intro G2.out.1 (Kd.bD G2.out.2 hb1));clear hb1 h31 h32)
   | (go_at_call 15;(with_reducible refine (RA.out _ _ _ H3.out.2 H3.out.1).mono ?_);rintro e w4 ⟨hb1,_,rfl,hv⟩;obtain ⟨A4,c4,hv2,l4,g4c⟩:=Kd.su hv;rw [HL.out.2] at hv2 l4 g4c;subst hv2;have B4:=aj.mk (ak B3.out hb1);have G4:=aj.mk (And.intro l4 g4c);have H4:=aj.mk (And.intro G3.out.1 (Kd.bD G3.out.2 hb1));clear hb1 hv l4 g4c))
 go_ret3;exact ⟨fun _=>⟨B4.out,A2,c2,A4,c4,rfl,H4.out.1,H4.out.2,G4.out.1,G4.out.2⟩,fun h=>absurd YES.out h⟩
theorem apQ (l:List S47) (ch a b:Int):∀ (d i:Nat),uT l ch a b i d=0->∀ j,i<=j->j < i+d->jD (fG l j) (oQ l a b j).1 (oQ l a b j).2=0:=by
 intro d;induction d with
 | zero=>intro i _ j h1 h2;omega
 | succ d ih =>
   intro i h j h1 h2;rw [uT] at h;by_cases c:jD (fG l i) (oQ l a b i).1 (oQ l a b i).2=0
   . rw [if_pos c] at h;by_cases f:abC (oQ l a b (i+1)).1 (oQ l a b (i+1)).2 ch=true
     . rw [if_pos f] at h;by_cases e:j=i
       . rw [e];exact c
       . exact ih (i+1) h j (by omega) (by omega)
     . rw [if_neg f] at h;exact absurd h (by decide)
   . rw [if_neg c] at h;exact absurd h c
theorem atr {l:List S47} {a b ch:Int} (h:qW l a b ch=0):l.length<=16/\∀ j,j < l.length->jD (fG l j) (oQ l a b j).1 (oQ l a b j).2=0:=by
 unfold qW at h;by_cases c:(16:Int) < (l.length:Int)
 . rw [if_pos c] at h;exact absurd h (by decide)
 rw [if_neg c] at h;by_cases f:abC a b ch=true
 . rw [if_pos f] at h;exact ⟨by omega,fun j hj=>apQ l ch a b l.length 0 h j (Nat.zero_le _) (by omega)⟩
 . rw [if_neg f] at h;exact absurd h (by decide)
theorem aqv (l:List S47) (a b:Int) (n j:Nat) (h:j < n):gZ (jm l a b n) (j:Int)=ahU l a b j:=by
 unfold gZ jm;rw [Int.toNat_natCast,List.getD_eq_getElem?_getD,List.getElem?_map,List.getElem?_range h];rfl
theorem amr (l:List S47) (a b:Int) (n j:Nat) (h:j < n):(rF l a b n)[j]? = some (afg l a b j):=by
 unfold rF;rw [List.getElem?_map,List.getElem?_range h];rfl
theorem ayj {w:World} {A:Option Addr} {n:Nat} {ss:List ac6} (h:Kd.C abR w A n ss) (i:Nat) (h1:i < n) {s:ac6} (hs:ss[i]? = some s):∃ ad A1 c1 A2 c2,A=some ad/\w.cell? (ad.add (i*5))=some (.slice A1 s.x.length c1)/\w.cell? ⟨(ad.add (i*5)).block,(ad.add (i*5)).off+1,none⟩=some (.slice A2 s.y.length c2)/\w.cell? ⟨(ad.add (i*5)).block,(ad.add (i*5)).off+2,none⟩=some (.int .i64 s.nx)/\w.cell? ⟨(ad.add (i*5)).block,(ad.add (i*5)).off+3,none⟩=some (.int .i64 s.ny)/\w.cell? ⟨(ad.add (i*5)).block,(ad.add (i*5)).off+4,none⟩=some (.int .i64 s.bd)/\s.x.length<=c1/\Kd.C tV w A1 s.x.length s.x/\s.y.length<=c2/\Kd.C tV w A2 s.y.length s.y:=by
 obtain ⟨ad,c,e,_,hK,hc0⟩:=Kd.ahM h axy (i:Int) (by omega) (by omega);rw [Int.toNat_natCast] at hK hc0;have es:ss.getD i axy=s:=(by rw [List.getD_eq_getElem?_getD,hs];rfl);rw [es] at hK;have hc:∀ j u,c[j]? = some u->w.cell? (ad.add (i*5+j))=some u:=hc0;obtain ⟨A1,c1,A2,c2,rfl,l1,g1,l2,g2⟩:=asg hK;exact ⟨ad,A1,c1,A2,c2,e,hc 0 _ rfl,by rw [<- jA _ _ 1 (by omega)];exact hc 1 _ rfl,by rw [<- jA _ _ 2 (by omega)];exact hc 2 _ rfl,by rw [<- jA _ _ 3 (by omega)];exact hc 3 _ rfl,by rw [<- jA _ _ 4 (by omega)];exact hc 4 _ rfl,l1,g1,l2,g2⟩
theorem ayk {o:S47} {W H:Int} (ho:ab6 o) (hW:oW W) (hH:oW H):((mJ o W).lines.length:Int)=(qC o W H).1/\((mM o H).lines.length:Int)=(qC o W H).2:=by
 have h1:=hW.1;have h2:=hH.1;unfold mJ mM qC;by_cases h3:o.f0=3
 . rw [if_pos h3,if_pos h3,if_pos h3,uP,uP];obtain ⟨a1,a2,a3,a4,a5,a6⟩:=ho.2.2.2.2 h3;exact ⟨by show ((o.f7.toNat:Nat):Int)=o.f7;omega,by show ((o.f8.toNat:Nat):Int)=o.f8;omega⟩
 . rw [if_neg h3,if_neg h3,if_neg h3,uQ,uQ];exact ⟨by show ((W.toNat:Nat):Int)=W;omega,by show ((H.toNat:Nat):Int)=H;omega⟩
theorem azO {o:S47} {W H:Int} (ho:ab6 o) (hW:oW W) (hH:oW H) (hl:aap o 12) (w12:W<=12) (h12:H<=12):1<=(qC o W H).1/\(qC o W H).1<=12/\1<=(qC o W H).2/\(qC o W H).2<=12:=by
 have h1:=hW.1;have h2:=hH.1;unfold qC;by_cases h3:o.f0=3
 . rw [if_pos h3];obtain ⟨a1,a2,a3,a4,a5,a6⟩:=ho.2.2.2.2 h3;obtain ⟨-,-,-,-,b1,b2⟩:=hl;simp only;omega
 . rw [if_neg h3];simp only;omega
theorem att {t:Tab} (T:Told t) (h1:1<=t.lines.length) (h2:t.lines.length<=65536):wU t:=⟨h1,h2,fun j hj=>⟨(T.l j hj).1.2.1,(T.l j hj).1.2.2.1,(T.l j hj).1.2.2.2⟩⟩
theorem ash {o:S47} {m:Img} (B:sO m) (hI:opI o) (hl:aap o 12) (w12:m.w<=12) (h12:m.h<=12) (h:jD o m.w m.h=0):ar6 m ⟨mJ o m.w,mM o m.h,o.f1⟩/\(aeT m ⟨mJ o m.w,mM o m.h,o.f1⟩).w<=12/\(aeT m ⟨mJ o m.w,mM o m.h,o.f1⟩).h<=12/\(aeT m ⟨mJ o m.w,mM o m.h,o.f1⟩).w=(qC o m.w m.h).1/\(aeT m ⟨mJ o m.w,mM o m.h,o.f1⟩).h=(qC o m.w m.h).2:=by
 have l1:=hl.1;have l2:=hl.2.1;obtain ⟨t1,t2,n1,n2,ho,hW,hH⟩:=ayf hI (by omega) (by omega) h;obtain ⟨e1,e2⟩:=ayk ho hW hH;obtain ⟨x1,x2,y1,y2⟩:=azO ho hW hH hl w12 h12;rw [<- e1] at x1 x2;rw [<- e2] at y1 y2;have LX:wU (mJ o m.w):=att t1 (by omega) (by omega);have LY:wU (mM o m.h):=att t2 (by omega) (by omega);have hc:(m.c.toNat:Int)=1\/(m.c.toNat:Int)=3:=by rcases B.c1 with h|h <;> rw [h] <;> decide
 refine ⟨⟨n1,n2,⟨ho.2.2.1,ho.2.2.2.1⟩,LX,LY,?_⟩,x2,y2,e1,e2⟩;have m1:((mJ o m.w).lines.length:Int)*(mM o m.h).lines.length<=12*12:=Int.le_trans (Int.mul_le_mul_of_nonneg_right x2 (by omega)) (Int.mul_le_mul_of_nonneg_left y2 (by decide));show ((mJ o m.w).lines.length:Int)*(mM o m.h).lines.length*m.c.toNat<=268435456
 rcases hc with h|h <;> rw [h] <;> omega
theorem avT {l:List S47} {m:Img} (B:sO m) (hO:∀ j:Nat,j < l.length->opI (fG l j)) (hs:aeD l m) (w12:m.w<=12) (h12:m.h<=12):∀ i:Nat,i<=l.length->sO (xZ m (jm l m.w m.h l.length) i)/\(xZ m (jm l m.w m.h l.length) i).w<=12/\(xZ m (jm l m.w m.h l.length) i).h<=12/\oQ l m.w m.h i=((xZ m (jm l m.w m.h l.length) i).w,(xZ m (jm l m.w m.h l.length) i).h)/\(xZ m (jm l m.w m.h l.length) i).c=m.c/\(xZ m (jm l m.w m.h l.length) i).most=m.most/\(i < l.length->ar6 (xZ m (jm l m.w m.h l.length) i) (gZ (jm l m.w m.h l.length) (i:Int))/\gZ (jm l m.w m.h l.length) (i:Int)=⟨mJ (fG l i) (xZ m (jm l m.w m.h l.length) i).w,mM (fG l i) (xZ m (jm l m.w m.h l.length) i).h,(fG l i).f1⟩):=by
 have hz:=atr hs.2.2;have step:∀ i:Nat,i < l.length->oQ l m.w m.h i=((xZ m (jm l m.w m.h l.length) i).w,(xZ m (jm l m.w m.h l.length) i).h)->gZ (jm l m.w m.h l.length) (i:Int)=⟨mJ (fG l i) (xZ m (jm l m.w m.h l.length) i).w,mM (fG l i) (xZ m (jm l m.w m.h l.length) i).h,(fG l i).f1⟩:=by
   intro i hi h;rw [aqv l m.w m.h l.length i hi,ahU,h]
 intro i;induction i with
 | zero =>
   intro _;refine ⟨B,w12,h12,rfl,rfl,rfl,fun hi => ?_⟩;have e:=step 0 hi rfl;have k:=ash B (hO 0 hi) (vZ hs.2.1 0 hi) w12 h12 (hz.2 0 hi);exact ⟨by rw [e];exact k.1,e⟩
 | succ i ih =>
   intro hi;obtain ⟨b1,b2,b3,b4,b5,b6,b7⟩:=ih (by omega);obtain ⟨s1,s2⟩:=b7 (by omega);have hzi:=hz.2 i (by omega);rw [b4] at hzi;have k:=ash b1 (hO i (by omega)) (vZ hs.2.1 i (by omega)) b2 b3 hzi;rw [<- s2] at k;have e0:xZ m (jm l m.w m.h l.length) (i+1)=aeT (xZ m (jm l m.w m.h l.length) i) (gZ (jm l m.w m.h l.length) (i:Int)):=rfl;have hsz:oQ l m.w m.h (i+1)=((xZ m (jm l m.w m.h l.length) (i+1)).w,(xZ m (jm l m.w m.h l.length) (i+1)).h):=by
     rw [e0,k.2.2.2.1,k.2.2.2.2,oQ,b4]
   have hB:=atn b1 s1;rw [<- e0] at hB k;refine ⟨hB,k.2.1,k.2.2.1,hsz,b5,b6,fun hi2 => ?_⟩;have e:=step (i+1) hi2 hsz;have hzj:=hz.2 (i+1) hi2;rw [hsz] at hzj;have kk:=ash hB (hO (i+1) hi2) (vZ hs.2.1 (i+1) hi2) k.2.1 k.2.2.1 hzj;exact ⟨by rw [e];exact kk.1,e⟩
def aDQ (m:Img):Prop:=∀ j:Nat,j < m.l.length->0<=rd m.l (j:Int)/\rd m.l (j:Int)<=m.most
end Go.Proofs.YtpondkggmcmpfaaGreatDoor.QA
