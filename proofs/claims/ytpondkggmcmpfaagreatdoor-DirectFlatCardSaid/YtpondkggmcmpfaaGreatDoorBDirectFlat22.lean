/- Joined by wip/tools/bundle.py out of: TS5 TQ5 TH5 TK5 TX5 TXr. -/
import Derived.Test.YtpondkggmcmpfaaGreatDoorBDirectFlat20
import Derived.Test.YtpondkggmcmpfaaGreatDoorBDirectFlat21
set_option maxHeartbeats 8000000
set_option maxRecDepth 100000
namespace Go.Proofs.YtpondkggmcmpfaaGreatDoor.QA
open Go.RowKit Go.Proofs.YtpondkggmcmpfaaGreatDoorW.PrintWords Go.Proofs.YtpondkggmcmpfaaGreatDoorW.PrintLast Go.Proofs.YtpondkggmcmpfaaGreatDoorW.PrintMore Go.Proofs.YtpondkggmcmpfaaGreatDoor.T
set_option linter.unusedVariables false
set_option linter.unusedSimpArgs false
def yN (l:List S47) (m:Img):Prop:=l.length<=4/\abY l 12=true/\qj l m.w m.h m.c=0
def aoU (w:World) (e:Ending) (w':World):Prop:=Below w.heap.size w w'/\e = .returned (.tuple #[.slice none 0 0,.slice none 0 0,.bool false])
def aoV (l:List S47) (m:Img) (w:World) (e:Ending) (w':World):Prop:=Below w.heap.size w w'/\∃ A2 c2 A4 c4,e = .returned (.tuple #[.slice A2 l.length c2,.slice A4 l.length c4,.bool true])/\Kd.R acg 38 w' w.heap.size (fun _=>True) (.slice A2 l.length c2) (gX l m.w m.h l.length)/\l.length<=c4/\Kd.C ac1 w' A4 l.length (zF l m.w m.h l.length)
theorem aoW (l:List S47) (A0:Option Addr) (c0:Nat) (b:Nat) (m:Img) (w:World) (hG:GL w) (hI:qJ w b m) (hr:Kd.C k47 w A0 l.length l) (hc:l.length<=c0) (hO:∀ j:Nat,j < l.length->opI (dX l j)) :
   Calls Tryz.prog 34 #[.slice A0 l.length c0,.pointer (some ⟨b,0,none⟩)] w (fun e w'=>(yN l m->aoV l m w e w')/\(¬ yN l m->aoU w e w')):=by
 have LT:=aj.mk (fun w' (hb:Below w.heap.size w w')=>amf l A0 c0 12 w' (Kd.bQ hr hb) hc);have lm:=hr.2.1;have mixed:Tryz.prog.follows .mixedOrders=true:=(by kernel_rfl);have B0:=aj.mk (Below.refl w.heap.size w);by_cases h4:(4:Int) < (l.length:Int)
 . have b4:decide ((4:Int) < (l.length:Int))=true:=decide_eq_true h4;have b4n:decide (4 < l.length)=true:=decide_eq_true (by omega);have no:¬ yN l m:=fun h=>by have:=h.1;omega
   have NO:=aj.mk no;clear hG hI hr hc hO LT no;go_enter Tryz.func34,Tryz.ntmps34;go_wp2;go_ret3;exact ⟨fun h=>absurd h NO.out,fun _=>⟨B0.out,rfl⟩⟩
 have b4:decide ((4:Int) < (l.length:Int))=false:=decide_eq_false h4;have b4n:decide (4 < l.length)=false:=decide_eq_false (by omega);by_cases hlb:abY l 12=true;rotate_left
 . have no:¬ yN l m:=fun h=>hlb h.2.1;have NO:=aj.mk no;have hlf:abY l 12=false:=(by simpa using hlb);rw [hlf] at LT;clear hG hI hr hc hO no hlb hlf;go_enter Tryz.func34,Tryz.ntmps34;go_wp2_with (go_at_call 13;(with_reducible refine (LT.out _ B0.out).mono ?_);rintro e w1 ⟨rfl,hb1⟩;have B1:=aj.mk hb1;clear hb1);go_ret3;exact ⟨fun h=>absurd h NO.out,fun _=>⟨B1.out,rfl⟩⟩
 have IW:=aj.mk (fun w' (hb:Below w.heap.size w w')=>uV b m w' (hI.below hb));have IH:=aj.mk (fun w' (hb:Below w.heap.size w w')=>tH b m w' (hI.below hb));have IC:=aj.mk (fun w' (hb:Below w.heap.size w w')=>ni b m w' (hI.below hb));have AL:=aj.mk (fun w' (hb:Below w.heap.size w w')=>au6 l A0 c0 m.w m.h m.c w' (hG.below hb) (Kd.bQ hr hb) hc (fun j hj=>⟨hO j hj,by have:=(rJ hlb j hj).1;omega,by have:=(rJ hlb j hj).2.1;omega⟩));have RF:=aj.mk (fun w' (hb:Below w.heap.size w w')=>aus l A0 c0 w' (Kd.bQ hr hb) hc (by omega));have RA:=aj.mk (fun A c w' (h1:Kd.C ab3 w' A l.length (l.map toO)) (h2:l.length<=c)=>apX l A c m.w m.h m.c w' h1 h2 (fun j hj=>⟨hO j hj,by have:=(rJ hlb j hj).1;omega,by have:=(rJ hlb j hj).2.1;omega⟩));have OK:=aj.mk (show yN l m↔qj l m.w m.h m.c=0 from ⟨fun h=>h.2.2,fun h=>⟨by omega,hlb,h⟩⟩);rw [hlb] at LT;unfold an0 at AL;unfold aga at RA;unfold aoV aoU;clear hG hI hr hc hO hlb;obtain ⟨c,hcc⟩:∃ c,c=qj l m.w m.h m.c:=⟨_,rfl⟩;rw [<- hcc] at AL RA OK;obtain ⟨ss,hss⟩:∃ x,x=gX l m.w m.h l.length:=⟨_,rfl⟩;obtain ⟨rs,hrs⟩:∃ x,x=zF l m.w m.h l.length:=⟨_,rfl⟩;rw [<- hss] at AL ⊢;rw [<- hrs] at RA ⊢;have hsl:ss.length=l.length:=(by rw [hss,adV]);have hrl:rs.length=l.length:=(by rw [hrs,agv]);have HL:=aj.mk (And.intro hsl hrl);obtain ⟨mw,hmw⟩:∃ v,v=m.w:=⟨_,rfl⟩;obtain ⟨mh,hmh⟩:∃ v,v=m.h:=⟨_,rfl⟩;obtain ⟨mc,hmc⟩:∃ v,v=m.c:=⟨_,rfl⟩;rw [<- hmw] at IW AL RA;rw [<- hmh] at IH AL RA;rw [<- hmc] at IC AL RA;obtain ⟨n,hn⟩:∃ n,n=l.length:=⟨_,rfl⟩;rw [<- hn] at b4 b4n h4 lm AL LT RF RA HL ⊢;clear hcc hss hrs hsl hrl hmw hmh hmc hn;have e2:((n:Int) == (n:Int))=true:=(by simp);by_cases hc0:c=0;rotate_left
 . have NO:=aj.mk (fun h=>hc0 (OK.out.1 h));have bc1:(c == 0)=false:=(by simpa using hc0);simp only [if_neg hc0] at AL RA;clear hc0 OK;go_enter Tryz.func34,Tryz.ntmps34
   go_wp2_with (first
     | (go_at_call 13;(with_reducible refine (LT.out _ B0.out).mono ?_);rintro e w1 ⟨rfl,hb1⟩;have B1:=aj.mk hb1;clear hb1)
     | (go_at_call 46;(with_reducible refine (IW.out _ B3.out).mono ?_);rintro e w' ⟨rfl,rfl⟩)
     | (go_at_call 45;(with_reducible refine (IH.out _ B3.out).mono ?_);rintro e w' ⟨rfl,rfl⟩)
     | (go_at_call 47;(with_reducible refine (IC.out _ B3.out).mono ?_);rintro e w' ⟨rfl,rfl⟩)
     | (go_at_call 46;(with_reducible refine (IW.out _ B1.out).mono ?_);rintro e w' ⟨rfl,rfl⟩)
     | (go_at_call 45;(with_reducible refine (IH.out _ B1.out).mono ?_);rintro e w' ⟨rfl,rfl⟩)
     | (go_at_call 47;(with_reducible refine (IC.out _ B1.out).mono ?_);rintro e w' ⟨rfl,rfl⟩)
     | (go_at_call 14;(with_reducible refine (AL.out _ B1.out).mono ?_);rintro e w2 ⟨hb1,rfl⟩;have B2:=aj.mk (ak B1.out hb1);clear hb1)
     | (go_at_call 16;(with_reducible refine (RF.out _ B2.out).mono ?_);rintro e w3 ⟨hb1,A3,c3,rfl,h31,h32⟩;have B3:=aj.mk (ak B2.out hb1);have H3:=aj.mk (And.intro h31 h32);clear hb1 h31 h32)
     | (go_at_call 15;(with_reducible refine (RA.out _ _ _ H3.out.2 H3.out.1).mono ?_);rintro e w4 ⟨hb1,rfl⟩;have B4:=aj.mk (ak B3.out hb1);clear hb1))
   go_ret3;exact ⟨fun h=>absurd h NO.out,fun _=>⟨B4.out,rfl⟩⟩
 have YES:=aj.mk (OK.out.2 hc0);simp only [if_pos hc0] at AL RA;subst hc0;clear OK;go_enter Tryz.func34,Tryz.ntmps34
 go_wp2_with (first
   | (go_at_call 13;(with_reducible refine (LT.out _ B0.out).mono ?_);rintro e w1 ⟨rfl,hb1⟩;have B1:=aj.mk hb1;clear hb1)
   | (go_at_call 46;(with_reducible refine (IW.out _ B3.out).mono ?_);rintro e w' ⟨rfl,rfl⟩)
   | (go_at_call 45;(with_reducible refine (IH.out _ B3.out).mono ?_);rintro e w' ⟨rfl,rfl⟩)
   | (go_at_call 47;(with_reducible refine (IC.out _ B3.out).mono ?_);rintro e w' ⟨rfl,rfl⟩)
   | (go_at_call 46;(with_reducible refine (IW.out _ B1.out).mono ?_);rintro e w' ⟨rfl,rfl⟩)
   | (go_at_call 45;(with_reducible refine (IH.out _ B1.out).mono ?_);rintro e w' ⟨rfl,rfl⟩)
   | (go_at_call 47;(with_reducible refine (IC.out _ B1.out).mono ?_);rintro e w' ⟨rfl,rfl⟩)
   | (go_at_call 14;(with_reducible refine (AL.out _ B1.out).mono ?_);rintro e w2 ⟨hb1,_,rfl,hv⟩;obtain ⟨A2,c2,hv2,-,-⟩:=Kd.rO hv;rw [HL.out.1] at hv2;subst hv2;have B2:=aj.mk (ak B1.out hb1);have G2:=aj.mk (Kd.fQ hv B1.out.size);clear hb1 hv)
   | (go_at_call 16;(with_reducible refine (RF.out _ B2.out).mono ?_);rintro e w3 ⟨hb1,A3,c3,rfl,h31,h32⟩;have B3:=aj.mk (ak B2.out hb1);have H3:=aj.mk (And.intro h31 h32);have G3:=aj.mk (Kd.jc G2.out hb1);clear hb1 h31 h32)
   | (go_at_call 15;(with_reducible refine (RA.out _ _ _ H3.out.2 H3.out.1).mono ?_);rintro e w4 ⟨hb1,_,rfl,hv⟩;obtain ⟨A4,c4,hv2,l4,g4c⟩:=Kd.rO hv;rw [HL.out.2] at hv2 l4 g4c;subst hv2;have B4:=aj.mk (ak B3.out hb1);have G4:=aj.mk (And.intro l4 g4c);have H4:=aj.mk (Kd.jc G3.out hb1);clear hb1 hv l4 g4c))
 go_ret3;exact ⟨fun _=>⟨B4.out,A2,c2,A4,c4,rfl,H4.out,G4.out.1,G4.out.2⟩,fun h=>absurd YES.out h⟩
theorem amQ (l:List S47) (ch a b:Int):∀ (d i:Nat),tC l ch a b i d=0->∀ j,i<=j->j < i+d->iR (dX l j) (nP l a b j).1 (nP l a b j).2=0:=by
 intro d;induction d with
 | zero=>intro i _ j h1 h2;omega
 | succ d ih =>
   intro i h j h1 h2;rw [tC] at h;by_cases c:iR (dX l i) (nP l a b i).1 (nP l a b i).2=0
   . rw [if_pos c] at h;by_cases f:aai (nP l a b (i+1)).1 (nP l a b (i+1)).2 ch=true
     . rw [if_pos f] at h;by_cases e:j=i
       . rw [e];exact c
       . exact ih (i+1) h j (by omega) (by omega)
     . rw [if_neg f] at h;exact absurd h (by decide)
   . rw [if_neg c] at h;exact absurd h c
theorem ajM {l:List S47} {a b ch:Int} (h:qj l a b ch=0):l.length<=16/\∀ j,j < l.length->iR (dX l j) (nP l a b j).1 (nP l a b j).2=0:=by
 unfold qj at h;by_cases c:(16:Int) < (l.length:Int)
 . rw [if_pos c] at h;exact absurd h (by decide)
 rw [if_neg c] at h;by_cases f:aai a b ch=true
 . rw [if_pos f] at h;exact ⟨by omega,fun j hj=>amQ l ch a b l.length 0 h j (Nat.zero_le _) (by omega)⟩
 . rw [if_neg f] at h;exact absurd h (by decide)
theorem aut (l:List S47) (a b:Int) (n j:Nat) (h:j < n):qY (gX l a b n) (j:Int)=ahD l a b j:=by
 unfold qY gX;rw [Int.toNat_natCast,List.getD_eq_getElem?_getD,List.getElem?_map,List.getElem?_range h];rfl
theorem auu {o:S47} {W H:Int} (ho:aah o) (hW:mM W) (hH:mM H):((kD o W).lines.length:Int)=(o9 o W H).1/\((kE o H).lines.length:Int)=(o9 o W H).2:=by
 have h1:=hW.1;have h2:=hH.1;unfold kD kE o9;by_cases h3:o.f0=3
 . rw [if_pos h3,if_pos h3,if_pos h3,ru,ru];obtain ⟨a1,a2,a3,a4,a5,a6⟩:=ho.2.2.2.2 h3;exact ⟨by show ((o.f7.toNat:Nat):Int)=o.f7;omega,by show ((o.f8.toNat:Nat):Int)=o.f8;omega⟩
 . rw [if_neg h3,if_neg h3,if_neg h3,rC,rC];exact ⟨by show ((W.toNat:Nat):Int)=W;omega,by show ((H.toNat:Nat):Int)=H;omega⟩
theorem avZ {o:S47} {W H:Int} (ho:aah o) (hW:mM W) (hH:mM H) (hl:xW o 12) (w12:W<=12) (h12:H<=12):1<=(o9 o W H).1/\(o9 o W H).1<=12/\1<=(o9 o W H).2/\(o9 o W H).2<=12:=by
 have h1:=hW.1;have h2:=hH.1;unfold o9;by_cases h3:o.f0=3
 . rw [if_pos h3];obtain ⟨a1,a2,a3,a4,a5,a6⟩:=ho.2.2.2.2 h3;obtain ⟨-,-,-,-,b1,b2⟩:=hl;simp only;omega
 . rw [if_neg h3];simp only;omega
theorem apY {t:Tab} (T:Told t) (h1:1<=t.lines.length) (h2:t.lines.length<=65536):abb t:=⟨h1,h2,fun j hj=>⟨(T.l j hj).1.2.1,(T.l j hj).1.2.2.1,(T.l j hj).1.2.2.2⟩⟩
theorem aoX {o:S47} {m:Img} (B:pq m) (hI:opI o) (hl:xW o 12) (w12:m.w<=12) (h12:m.h<=12) (h:iR o m.w m.h=0):al2 m ⟨kD o m.w,kE o m.h,o.f1⟩/\(yR m ⟨kD o m.w,kE o m.h,o.f1⟩).w<=12/\(yR m ⟨kD o m.w,kE o m.h,o.f1⟩).h<=12/\(yR m ⟨kD o m.w,kE o m.h,o.f1⟩).w=(o9 o m.w m.h).1/\(yR m ⟨kD o m.w,kE o m.h,o.f1⟩).h=(o9 o m.w m.h).2:=by
 have l1:=hl.1;have l2:=hl.2.1;obtain ⟨t1,t2,n1,n2,ho,hW,hH⟩:=aup hI (by omega) (by omega) h;obtain ⟨e1,e2⟩:=auu ho hW hH;obtain ⟨x1,x2,y1,y2⟩:=avZ ho hW hH hl w12 h12;rw [<- e1] at x1 x2;rw [<- e2] at y1 y2;have LX:abb (kD o m.w):=apY t1 (by omega) (by omega);have LY:abb (kE o m.h):=apY t2 (by omega) (by omega);have hc:(m.c.toNat:Int)=1\/(m.c.toNat:Int)=3:=by rcases B.c1 with h|h <;> rw [h] <;> decide
 refine ⟨⟨n1,n2,⟨ho.2.2.1,ho.2.2.2.1⟩,LX,LY,?_⟩,x2,y2,e1,e2⟩;have m1:((kD o m.w).lines.length:Int)*(kE o m.h).lines.length<=12*12:=Int.le_trans (Int.mul_le_mul_of_nonneg_right x2 (by omega)) (Int.mul_le_mul_of_nonneg_left y2 (by decide));show ((kD o m.w).lines.length:Int)*(kE o m.h).lines.length*m.c.toNat<=268435456
 rcases hc with h|h <;> rw [h] <;> omega
theorem ag9 {l:List S47} {m:Img} (B:pq m) (hO:∀ j:Nat,j < l.length->opI (dX l j)) (hs:yN l m) (w12:m.w<=12) (h12:m.h<=12):∀ i:Nat,i<=l.length->pq (lI m (gX l m.w m.h l.length) i)/\(lI m (gX l m.w m.h l.length) i).w<=12/\(lI m (gX l m.w m.h l.length) i).h<=12/\nP l m.w m.h i=((lI m (gX l m.w m.h l.length) i).w,(lI m (gX l m.w m.h l.length) i).h)/\(lI m (gX l m.w m.h l.length) i).c=m.c/\(lI m (gX l m.w m.h l.length) i).most=m.most/\(i < l.length->al2 (lI m (gX l m.w m.h l.length) i) (qY (gX l m.w m.h l.length) (i:Int))/\qY (gX l m.w m.h l.length) (i:Int)=⟨kD (dX l i) (lI m (gX l m.w m.h l.length) i).w,kE (dX l i) (lI m (gX l m.w m.h l.length) i).h,(dX l i).f1⟩):=by
 have hz:=ajM hs.2.2;have step:∀ i:Nat,i < l.length->nP l m.w m.h i=((lI m (gX l m.w m.h l.length) i).w,(lI m (gX l m.w m.h l.length) i).h)->qY (gX l m.w m.h l.length) (i:Int)=⟨kD (dX l i) (lI m (gX l m.w m.h l.length) i).w,kE (dX l i) (lI m (gX l m.w m.h l.length) i).h,(dX l i).f1⟩:=by
   intro i hi h;rw [aut l m.w m.h l.length i hi,ahD,h]
 intro i;induction i with
 | zero =>
   intro _;refine ⟨B,w12,h12,rfl,rfl,rfl,fun hi => ?_⟩;have e:=step 0 hi rfl;have k:=aoX B (hO 0 hi) (rJ hs.2.1 0 hi) w12 h12 (hz.2 0 hi);exact ⟨by rw [e];exact k.1,e⟩
 | succ i ih =>
   intro hi;obtain ⟨b1,b2,b3,b4,b5,b6,b7⟩:=ih (by omega);obtain ⟨s1,s2⟩:=b7 (by omega);have hzi:=hz.2 i (by omega);rw [b4] at hzi;have k:=aoX b1 (hO i (by omega)) (rJ hs.2.1 i (by omega)) b2 b3 hzi;rw [<- s2] at k;have e0:lI m (gX l m.w m.h l.length) (i+1)=yR (lI m (gX l m.w m.h l.length) i) (qY (gX l m.w m.h l.length) (i:Int)):=rfl;have hsz:nP l m.w m.h (i+1)=((lI m (gX l m.w m.h l.length) (i+1)).w,(lI m (gX l m.w m.h l.length) (i+1)).h):=by
     rw [e0,k.2.2.2.1,k.2.2.2.2,nP,b4]
   have hB:=avP b1 s1;rw [<- e0] at hB k;refine ⟨hB,k.2.1,k.2.2.1,hsz,b5,b6,fun hi2 => ?_⟩;have e:=step (i+1) hi2 hsz;have hzj:=hz.2 (i+1) hi2;rw [hsz] at hzj;have kk:=aoX hB (hO (i+1) hi2) (rJ hs.2.1 (i+1) hi2) k.2.1 k.2.2.1 hzj;exact ⟨by rw [e];exact kk.1,e⟩
def azu (m:Img):Prop:=∀ j:Nat,j < m.l.length->0<=rd m.l (j:Int)/\rd m.l (j:Int)<=m.most
theorem ajN {l:List Int} (hi:∀ i:Nat,I64 (rd l (i:Int))) (h:jm l=0) (a:Int):aeb ⟨a,iM l⟩:=by
 obtain ⟨_,_,_,h3⟩:=ajD rfl (wH hi h);unfold aeb;show dh (fun i=>rd (iM l) (i:Int)) (iM l).length=16384
 rw [vH];exact h3
def akL (t:Tab):Prop:=∀ j:Nat,j < t.lines.length->aeb (fV t.lines (j:Int))
theorem anq {f n:Int} {M:Nat} (hc:gK f n M 0 M=0):akL (iC f n M M):=by
 have hz:∀ (d i:Nat),gK f n M i d=0->∀ j:Nat,i<=j->j < i+d->jm (uU f n M j)=0:=by
   intro d;induction d with
   | zero=>intro i _ j h1 h2;omega
   | succ d ih =>
     intro i h j h1 h2;rw [gK] at h;by_cases c:jm (uU f n M i)=0
     . rw [if_pos c] at h;by_cases e:j=i
       . rw [e];exact c
       . exact ih (i+1) h j (by omega) (by omega)
     . rw [if_neg c] at h;exact absurd h c
 intro o ho;rw [ru] at ho;rw [aeN f n M M o ho];exact ajN (fun i=>tu (aaG f n M o) _) (hz M 0 hc o (by omega) (by omega)) _
theorem anr {l:List Int} {N:Nat} (h1:1<=N) (h2:N<=65536) (hx:∀ x ∈ l,I64 x) (hc:iO l N=0):akL (iK N ((l.length / 2:Nat):Int) (iM l) N):=by
 have hfc:iO l N=if l.length % 2=0 then 7 else jm l:=by unfold iO;rw [if_pos ⟨by omega,by omega⟩]
 rw [hfc] at hc;have hk:jm l=0:=by
   by_cases c:l.length % 2=0
   . rw [if_pos c] at hc;exact absurd hc (by decide)
   . rw [if_neg c] at hc;exact hc
 intro o ho;rw [rC] at ho;rw [aeO _ _ _ N o ho];exact ajN (fun i=>tu hx _) hk _
theorem av1 {o:S47} {W H:Int} (hI:opI o) (l4:o.f4.length < 4611686018427387904) (l5:o.f5.length < 4611686018427387904) (h:iR o W H=0):akL (kD o W)/\akL (kE o H):=by
 by_cases hh:aah o/\mM W/\mM H;rotate_left
 . rw [pR o W H hh] at h;exact absurd h (by decide)
 obtain ⟨ho,hW,hH⟩:=hh;obtain ⟨N1,rfl⟩:∃ N:Nat,W=N:=⟨W.toNat,by have:=hW.1;omega⟩;obtain ⟨N2,rfl⟩:∃ N:Nat,H=N:=⟨H.toNat,by have:=hH.1;omega⟩;have n1:1<=N1/\N1<=65536:=(by have:=hW.1;have:=hW.2;omega);have n2:1<=N2/\N2<=65536:=(by have:=hH.1;have:=hH.2;omega);by_cases h3:o.f0=3
 . obtain ⟨a1,a2,a3,a4,a5,a6⟩:=ho.2.2.2.2 h3;obtain ⟨M1,e1⟩:∃ M:Nat,o.f7=M:=⟨o.f7.toNat,by omega⟩;obtain ⟨M2,e2⟩:∃ M:Nat,o.f8=M:=⟨o.f8.toNat,by omega⟩;have q1:okR o.f6 N1 M1:=⟨a5,a6,hW.1,hW.2,by omega,by omega⟩;have q2:okR o.f6 N2 M2:=⟨a5,a6,hH.1,hH.2,by omega,by omega⟩;have hs:iR o N1 N2=if gK o.f6 N1 M1 0 M1=0 then gK o.f6 N2 M2 0 M2 else gK o.f6 N1 M1 0 M1:=by
     unfold iR acM adU;rw [if_pos ⟨ho,hW,hH⟩,if_neg (fun h=>h.1 h3),if_pos h3,if_pos h3,e1,e2];rfl
   rw [hs] at h;have ex:kD o N1=iC o.f6 N1 M1 M1:=(by unfold kD;rw [if_pos h3,e1];rfl);have ey:kE o N2=iC o.f6 N2 M2 M2:=(by unfold kE;rw [if_pos h3,e2];rfl);rw [ex,ey];by_cases k1:gK o.f6 N1 M1 0 M1=0
   . rw [if_pos k1] at h;exact ⟨anq k1,anq h⟩
   . rw [if_neg k1] at h;exact absurd h k1
 . obtain ⟨hw,hu,hv,lu,lv⟩:=abJ o hI l4 l5;rw [abE ho hW hH h3] at h;have ex:kD o N1=iK N1 (((jl o).1.length / 2:Nat):Int) (iM (jl o).1) N1:=(by unfold kD;rw [if_neg h3];rfl);have ey:kE o N2=iK N2 (((jl o).2.1.length / 2:Nat):Int) (iM (jl o).2.1) N2:=(by unfold kE;rw [if_neg h3];rfl);rw [ex,ey];by_cases k0:(jl o).2.2=0
   . rw [if_pos k0] at h;by_cases k1:iO (jl o).1 N1=0
     . rw [if_pos k1] at h;exact ⟨anr n1.1 n1.2 hu k1,anr n2.1 n2.2 hv h⟩
     . rw [if_neg k1] at h;exact absurd h k1
   . rw [if_neg k0] at h;exact absurd h k0
theorem apZ {l:List S47} {m:Img} (B:pq m) (hO:∀ j:Nat,j < l.length->opI (dX l j)) (hs:yN l m) (w12:m.w<=12) (h12:m.h<=12) {one:Int} (ho:0<=one/\one<=m.most) (hv:∀ j:Nat,j < m.l.length->rd m.l (j:Int)=one):∀ i:Nat,i<=l.length->∀ j:Nat,j < (lI m (gX l m.w m.h l.length) i).l.length->rd (lI m (gX l m.w m.h l.length) i).l (j:Int)=one:=by
 have C:=ag9 B hO hs w12 h12;have hz:=ajM hs.2.2;intro i;induction i with
 | zero=>intro _;exact hv
 | succ i ih =>
   intro hi;obtain ⟨b1,b2,b3,b4,b5,b6,b7⟩:=C i (by omega);obtain ⟨s1,s2⟩:=b7 (by omega);have hzi:=hz.2 i (by omega);rw [b4] at hzi;have lt:=rJ hs.2.1 i (by omega);have t:=av1 (hO i (by omega)) (by have:=lt.1;omega) (by have:=lt.2.1;omega) hzi;show ∀ j:Nat,j < (yR (lI m (gX l m.w m.h l.length) i) (qY (gX l m.w m.h l.length) (i:Int))).l.length->rd (yR (lI m (gX l m.w m.h l.length) i) (qY (gX l m.w m.h l.length) (i:Int))).l (j:Int)=one
   exact arR b1 (by rw [b6];exact ho) (ih (by omega)) (by rw [s2];exact t.1) (by rw [s2];exact t.2)
theorem av2 {wd ht c most:Int} {l:List Int} (h1:0<=wd) (h2:0<=ht) (h3:0<=c) (h4:0<=most):pq (drI wd ht c most l)/\(∀ j:Nat,j < (drI wd ht c most l).l.length->0<=rd (drI wd ht c most l).l (j:Int)/\rd (drI wd ht c most l).l (j:Int)<=(drI wd ht c most l).most)/\(drI wd ht c most l).l.length<=268435456/\(drI wd ht c most l).w<=20/\(drI wd ht c most l).h<=20:=by
 obtain ⟨q1,q2,q3,q4⟩:=amg h1 h2 h3 h4;obtain ⟨q5,q6,q7,q8⟩:=av3 h1 h2 h3;have el:(drI wd ht c most l).l.length=(drW wd*drW ht*drK c).toNat:=(by show (List.map _ (List.range _)).length=_;simp);refine ⟨⟨q1.1,Int.le_trans q1.2 (by decide),q2.1,Int.le_trans q2.2 (by decide),q3,q4.1,q4.2,?_,Int.le_trans q6 (by decide)⟩,fun j hj => ?_,?_,q1.2,q2.2⟩
 . rw [el];exact Int.toNat_of_nonneg (by omega)
 . have e:rd (drI wd ht c most l).l (j:Int)=drV (drT most) l j:=by
     rw [el] at hj;show rd (List.map _ (List.range _)) _=_
     unfold rd;rw [Int.toNat_natCast,List.getD_eq_getElem?_getD,List.getElem?_map,List.getElem?_range hj];rfl
   rw [e];exact ajn q4.1 l j
 . rw [el];omega
theorem aym {wd ht c most:Int} {l:List Int} (h1:0<=wd) (h2:0<=ht) (h3:0<=c) (h4:0<=most):pq (drI (wd % 12) (ht % 12) c most l)/\azu (drI (wd % 12) (ht % 12) c most l)/\(drI (wd % 12) (ht % 12) c most l).l.length<=268435456/\(drI (wd % 12) (ht % 12) c most l).w<=12/\(drI (wd % 12) (ht % 12) c most l).h<=12:=by
 obtain ⟨a,b,d,-,-⟩:=av2 (wd:=wd % 12) (ht:=ht % 12) (c:=c) (most:=most) (l:=l) (by omega) (by omega) h3 h4;refine ⟨a,b,d,?_,?_⟩
 . show drW (wd % 12)<=12
   unfold drW;omega
 . show drW (ht % 12)<=12
   unfold drW;omega
theorem auv (w:World) (v0 v1 v2 v3 v4:Value):∃ W1 g,W1=w.alloc (.cells #[v0,v1,v2,v3,v4] 82)/\g=w.heap.size/\W1.heap[g]? = some (.cells #[v0,v1,v2,v3,v4] 82 (0,0))/\Below w.heap.size w W1:=⟨_,_,rfl,rfl,heap_alloc_new w _,aT (Below.refl _ _) _⟩
theorem ar9 {l:List S47} {m:Img} (B:pq m) (hO:∀ j:Nat,j < l.length->opI (dX l j)) (hs:yN l m) (w12:m.w<=12) (h12:m.h<=12) {l':List Int} {one:Int} (hl:l'.length=m.l.length) (ho:0<=one/\one<=m.most) (hv:∀ j:Nat,j < l'.length->rd l' (j:Int)=one):∀ i:Nat,i<=l.length->pq (lI ⟨m.w,m.h,m.c,m.most,l'⟩ (gX l m.w m.h l.length) i)/\(lI ⟨m.w,m.h,m.c,m.most,l'⟩ (gX l m.w m.h l.length) i).c=m.c/\(lI ⟨m.w,m.h,m.c,m.most,l'⟩ (gX l m.w m.h l.length) i).most=m.most/\(i < l.length->al2 (lI ⟨m.w,m.h,m.c,m.most,l'⟩ (gX l m.w m.h l.length) i) (qY (gX l m.w m.h l.length) (i:Int)))/\(∀ j:Nat,j < (lI ⟨m.w,m.h,m.c,m.most,l'⟩ (gX l m.w m.h l.length) i).l.length->rd (lI ⟨m.w,m.h,m.c,m.most,l'⟩ (gX l m.w m.h l.length) i).l (j:Int)=one):=by
 have B':pq ⟨m.w,m.h,m.c,m.most,l'⟩:=⟨B.w1,B.w2,B.h1,B.h2,B.c1,B.m1,B.m2,by show (l'.length:Int)=_;rw [hl];exact B.n,B.n2⟩;have hs':yN l ⟨m.w,m.h,m.c,m.most,l'⟩:=hs;intro i hi;have C:=ag9 B' hO hs' w12 h12 i hi;exact ⟨C.1,C.2.2.2.2.1,C.2.2.2.2.2.1,fun h=>(C.2.2.2.2.2.2 h).1,apZ B' hO hs' w12 h12 ho hv i hi⟩
theorem agA (wd ht c most:Int) (A0:Option Addr) (c0:Nat) (l:List Int) (L:List S47) (A1:Option Addr) (c1:Nat) (v:Int) (w:World) (hG:GL w) (hr:Kd.C k47 w A1 L.length L) (hc:L.length<=c1) (hO:∀ j:Nat,j < L.length->opI (dX L j)) (h1:0<=wd/\wd<=65535) (h2:0<=ht/\ht<=65535) (h3:0<=c/\c<=65535) (h4:0<=most/\most<=65535) (hr0:Kd.C (Kd.int .u16) w A0 l.length l) (hc0:l.length<=c0) (hv:∀ j:Nat,j < l.length->0<=rd l (j:Int)/\rd l (j:Int)<=65535) (hv7:0<=v/\v<=65535) :
   Calls Tryz.prog 10 #[.agg #[.int .u16 wd,.int .u16 ht,.int .u16 c,.int .u16 most,.slice A0 l.length c0],.slice A1 L.length c1,.int .u16 v] w fun e w'=>e = .returned (.bool true)/\Below w.heap.size w w':=by
 have LV:=aj.mk (fun w' (hb:Below w.heap.size w w')=>aj7 w' (hG.below hb));have PC:=aj.mk (fun w' (hb:Below w.heap.size w w')=>amR wd ht c most A0 c0 l w' h1 h2 h3 h4 (Kd.bQ hr0 hb) hc0 hv);have HG:=aj.mk (fun w' (hb:Below w.heap.size w w')=>hG.below hb);obtain ⟨MB,MV,ML,MW,MH⟩:=aym (l:=l) h1.1 h2.1 h3.1 h4.1;generalize drI (wd % 12) (ht % 12) c most l=m at PC MB MV ML MW MH;have SG:=aj.mk (fun b w' (hb:Below w.heap.size w w') (hi:qJ w' b m)=>aoW L A1 c1 b m w' (hG.below hb) hi (Kd.bQ hr hb) hc hO);have CH:=aj.mk (fun (hs:yN L m)=>ag9 MB hO hs MW MH);have FL0:=aj.mk (fun (hs:yN L m) (l':List Int) (one:Int) (hl:l'.length=m.l.length) (h1:0<=one/\one<=m.most) (h2:∀ j:Nat,j < l'.length->rd l' (j:Int)=one)=>ar9 MB hO hs MW MH hl h1 h2);obtain ⟨n0,hn0⟩:∃ n,n=l.length:=⟨_,rfl⟩;rw [<- hn0] at PC ⊢;obtain ⟨W1,r,e1,hr1,h1',hb1⟩:=auv w (.int .u16 wd) (.int .u16 ht) (.int .u16 c) (.int .u16 most) (.slice A0 n0 c0);have E1:=aj.mk e1;have ER:=aj.mk hr1;have HR:=aj.mk h1';have BX:=aj.mk hb1;have mixed:Tryz.prog.follows .mixedOrders=true:=(by kernel_rfl);have HMB:=aj.mk (And.intro MB (And.intro MV (And.intro ML (And.intro MW MH))));have HV:=aj.mk hv7;clear hv7 hr hG hc hO hv hn0 h1 h2 h3 h4 MB MV ML MW MH e1 hr1 h1' hb1 hr0 hc0;by_cases hk:yN L m;rotate_left
 . have SN:aj (∀ b w',Below w.heap.size w w'->qJ w' b m->Calls Tryz.prog 34 #[.slice A1 L.length c1,.pointer (some ⟨b,0,none⟩)] w' (aoU w')):=⟨fun b w' hb hi=>(SG.out b w' hb hi).mono (fun e w'' h=>h.2 hk)⟩;unfold aoU at SN;clear SG CH hk;go_enter Tryz.func10,Tryz.ntmps10;go_upto_region 1 with fail;rw [<- ER.out,<- E1.out];go_upto_region 3 with (go_at_call 32;refine (LV.out _ BX.out).mono ?_;rintro e w4 ⟨rfl,hb4⟩;have B4:=aj.mk (ak BX.out hb4);have HR4:=aj.mk (aA HR.out hb4);clear hb4);obtain ⟨s0,s1,s2,s3,s4⟩:=cells5 HR4.out;go_upto_region 4 with (go_at_call 33;refine (PC.out _ B4.out).mono ?_;rintro e w5 ⟨g,rfl,hi,hb5⟩;have B5:=aj.mk (ak B4.out hb5);have HI:=aj.mk hi.reads;have HO:=aj.mk (hi.lower B4.out.size);clear hi hb5);clear s0 s1 s2 s3 s4 HR4 B4;go_wp2_with (go_at_call 34;(with_reducible refine (SN.out g w5 B5.out HI.out).mono ?_);rintro e w6 ⟨hb6,rfl⟩;have B6:=aj.mk (ak B5.out hb6);clear hb6);go_ret;exact ⟨rfl,B6.out⟩
 have SY:aj (∀ b w',Below w.heap.size w w'->qJ w' b m->Calls Tryz.prog 34 #[.slice A1 L.length c1,.pointer (some ⟨b,0,none⟩)] w' (aoV L m w')):=⟨fun b w' hb hi=>(SG.out b w' hb hi).mono (fun e w'' h=>h.1 hk)⟩;unfold aoV at SY;have CH2:=aj.mk (CH.out hk);have FL:=aj.mk (FL0.out hk);have HL4:L.length<=4:=hk.1;clear SG CH FL0 hk;have hsl:(gX L m.w m.h L.length).length=L.length:=adV _ _ _ _;generalize gX L m.w m.h L.length=ss at SY CH2 hsl FL;obtain ⟨n,hn⟩:∃ n,n=L.length:=⟨_,rfl⟩;rw [<- hn] at SY HL4 hsl ⊢;have HN:=aj.mk (And.intro hn hsl);clear hn hsl;go_enter Tryz.func10,Tryz.ntmps10;go_upto_region 1 with fail;rw [<- ER.out,<- E1.out];go_upto_region 3 with (go_at_call 32;refine (LV.out _ BX.out).mono ?_;rintro e w4 ⟨rfl,hb4⟩;have B4:=aj.mk (ak BX.out hb4);have HR4:=aj.mk (aA HR.out hb4);clear hb4);obtain ⟨s0,s1,s2,s3,s4⟩:=cells5 HR4.out;go_upto_region 4 with (go_at_call 33;refine (PC.out _ B4.out).mono ?_;rintro e w5 ⟨g,rfl,hi,hb5⟩;have B5:=aj.mk (ak B4.out hb5);have HI:=aj.mk hi.reads;have HO:=aj.mk (hi.lower B4.out.size);clear hi hb5);clear s0 s1 s2 s3 s4 HR4 B4;go_upto_region 7 with (go_at_call 34;(with_reducible refine (SY.out g w5 B5.out HI.out).mono ?_);rintro e w6 ⟨hb6,A2,c2,A4,c4,rfl,k2,-,-⟩;have B6:=aj.mk (ak B5.out hb6);have C6:=aj.mk hb6;have HO6:=aj.mk (HO.out.below hb6);have K2:=aj.mk k2;clear hb6 k2);have M1:=aj.mk (fun w' (hb:Below w6.heap.size w6 w')=>yH g m w' (HO6.out.reads.below hb));obtain ⟨mo,hmo⟩:∃ x,x=m.most:=⟨_,rfl⟩;rw [<- hmo] at M1;have HMO:=aj.mk hmo;have mb:1<=mo/\mo<=65535:=(by rw [hmo];exact ⟨HMB.out.1.m1,HMB.out.1.m2⟩);obtain ⟨v0,v1⟩:=HV.out;have e1:IntKind.i64.wrap (mo+1)=mo+1:=(by rw [jS];exact aC (by omega) (by omega));have e2:IntKind.i64.wrap v=v:=(by rw [jS];exact aC (by omega) (by omega));have e3:mo+1≠0:=(by omega);have e4:Int.tmod v (mo+1)=v % (mo+1):=Int.tmod_eq_emod_of_nonneg v0;have r0:=Int.emod_nonneg v e3;have r1:=Int.emod_lt_of_pos v (show 0 < mo+1 by omega);obtain ⟨one,hone⟩:∃ x,x=v % (mo+1):=⟨_,rfl⟩;rw [<- hone] at e4 r0 r1;have e5:IntKind.i64.wrap one=one:=(by rw [jS];exact aC (by omega) (by omega));have e6:IntKind.u16.wrap one=one:=wrap_u16 r0 (by omega);have ON:=aj.mk (show 0<=one/\one<=mo from ⟨r0,by omega⟩);clear hmo hone r0 r1 mb;go_upto_region 8 with (go_at_call 44;(with_reducible refine (M1.out _ (Below.refl _ _)).mono ?_);rintro e w6 ⟨rfl,rfl⟩);clear e1 e2 e3 e4 e5 e6 v0 v1;obtain ⟨gr,IR,hgr⟩:=HO.out.row (by have:=HMB.out.1.n;have:=HMB.out.2.2.1;have h1:=HMB.out.1.w1;have h2:=HMB.out.1.h1;have h3:1<=m.c:=(by rcases HMB.out.1.c1 with h|h <;> omega);have h4:1<=m.w*m.h*m.c:=Int.le_trans (by decide) (Int.mul_le_mul (Int.mul_le_mul h1 h2 (by decide) (by omega)) h3 (by decide) (Int.mul_nonneg (by omega) (by omega)));omega);obtain ⟨W,hW⟩:∃ W:Nat,m.w=W:=⟨m.w.toNat,by have:=HMB.out.1.w1;omega⟩;obtain ⟨H,hH⟩:∃ H:Nat,m.h=H:=⟨m.h.toNat,by have:=HMB.out.1.h1;omega⟩;obtain ⟨C,hC⟩:∃ C:Nat,m.c=C:=⟨m.c.toNat,by rcases HMB.out.1.c1 with h|h <;> omega⟩;have bW:W<=65536:=(by have:=HMB.out.1.w2;omega);have bH:H<=65536:=(by have:=HMB.out.1.h2;omega);have bC:C<=3:=by rcases HMB.out.1.c1 with h|h <;> omega
 have HQ0:=aj.mk (show uP m one w w6 w6 g gr ((0*W+0)*C+0) m.l from ⟨rfl,fun j hj=>absurd hj (by simp),IR.below C6.out,oz.refl _ _ _,B6.out⟩);have GRB:=aj.mk hgr
 have HGI:=aj.mk (fun (p:Nat) (l:List Int) (wr:World) (Q:uP m one w w6 wr g gr p l)=>(show (Calls Tryz.prog 45 #[.pointer (some ⟨g,0,none⟩)] wr fun e w'=>e = .returned (.int .i64 H)/\w'=wr)/\(Calls Tryz.prog 46 #[.pointer (some ⟨g,0,none⟩)] wr fun e w'=>e = .returned (.int .i64 W)/\w'=wr)/\(Calls Tryz.prog 47 #[.pointer (some ⟨g,0,none⟩)] wr fun e w'=>e = .returned (.int .i64 C)/\w'=wr) from by
   have h1:=tH g _ wr Q.img.reads;have h2:=uV g _ wr Q.img.reads;have h3:=ni g _ wr Q.img.reads;simp only [hW,hH,hC] at h1 h2 h3;exact ⟨h1,h2,h3⟩))
 have SET:=aj.mk (fun (x y c:Nat) (l:List Int) (wr:World) (hx:x < W) (hy:y < H) (hc:c < C) (Q:uP m one w w6 wr g gr ((y*W+x)*C+c) l)=>asa HMB.out.1 hW hH hC (by rw [<- HMO.out];exact ON.out) hx hy hc Q);have HD:=aj.mk (And.intro hW (And.intro hH hC));clear IR hgr hW hH hC M1;have HG0:=aj.mk (HGI.out _ _ _ HQ0.out);go_wp2_with (go_at_call 45;(with_reducible refine HG0.out.1.mono ?_);rintro e w6 ⟨rfl,rfl⟩);clear HG0;go_loopg [43] H (fun kx s43 wr=>∃ (y:Nat) (l:List Int),s43 = .int .i64 y/\y<=H/\H - y<=kx/\aj (uP m one w w6 wr g gr ((y*W+0)*C+0) l))
 case atStart=>exact ⟨0,_,rfl,by omega,by omega,HQ0⟩
 case round =>
   obtain ⟨y,l,rfl,j1,j2,HQ⟩:=hrel;have wi:IntKind.i64.wrap ((y:Int)+1)=(y:Int)+1:=(by rw [jS];exact aC (by omega) (by omega));by_cases hlt:(y:Int) < (H:Int);rotate_left
   . have hy:y=H:=(by omega);have eN:(H*W+0)*C+0=m.l.length:=by
       have h:=HMB.out.1.n;rw [HD.out.1,HD.out.2.1,HD.out.2.2] at h;have h2:((m.l.length:Nat):Int)=((W*H*C:Nat):Int):=(by rw [h];simp);rw [Int.ofNat_inj.1 h2,Nat.add_zero,Nat.add_zero,Nat.mul_comm H W]
     have Q:=HQ.out.cast (q:=m.l.length) (by rw [hy];exact eN);have FLI:=FL.out l one Q.len (by rw [<- HMO.out];exact ON.out) Q.done;have KR:=Kd.auJ (g:=gr) (Kd.dU (Kd.jZ K2.out) (fun _ h=>h.2.1)) Q.keep (fun k hk=>by have h1:=GRB.out;have h2:w5.heap.size<=k:=hk;omega);obtain ⟨z1,z2,z3⟩:=Kd.dH KR;rw [<- z1] at z3;have CO:=aj.mk (aoL g ⟨m.w,m.h,m.c,m.most,l⟩ A2 n c2 ss wr (HG.out _ Q.bel) Q.img.reads (by show l.length<=_;rw [Q.len];exact HMB.out.2.2.1) z3 (by omega) (fun i hi=>⟨(FLI i (by have:=HN.out.1;omega)).1,(FLI i (by have:=HN.out.1;omega)).2.2.2.1 (by have:=HN.out.1;omega)⟩));have LST:=FLI n (by have:=HN.out.1;omega);have BQ:=aj.mk Q.bel;have IQ:=aj.mk Q.img.reads;clear eN Q FLI KR z1 z2 z3;obtain ⟨k,hk⟩:∃ k,k=lI ⟨m.w,m.h,m.c,m.most,l⟩ ss n:=⟨_,rfl⟩;rw [<- hk] at CO LST;obtain ⟨kb,kc,km,-,kv⟩:=LST;have asb:k.l.length<=268435456:=(by have h1:=kb.n;have h2:=kb.n2;omega);have KV:=aj.mk kv;have KLN:=aj.mk asb;clear hk kb kv HQ;subst hy;go_upto_region 22 with (go_at_call 42;(with_reducible refine CO.out.mono ?_);rintro e w7 ⟨hb7,g2,rfl,hi7⟩;have B7:=aj.mk (ak BQ.out hb7);have I7:=aj.mk (IQ.out.below hb7);have HO7:=aj.mk hi7.reads;clear hb7 hi7);obtain ⟨mc,hmc⟩:∃ x,x=m.c:=⟨_,rfl⟩;have HMC:=aj.mk hmc;have M1:=aj.mk (fun w' (hb:Below w7.heap.size w7 w')=>(show Calls Tryz.prog 44 #[.pointer (some ⟨g,0,none⟩)] w' (fun e w''=>e = .returned (.int .i64 mo)/\w''=w') from by rw [HMO.out];exact yH g ⟨m.w,m.h,m.c,m.most,l⟩ w' (I7.out.below hb)));have M2:=aj.mk (fun w' (hb:Below w7.heap.size w7 w')=>(show Calls Tryz.prog 44 #[.pointer (some ⟨g2,0,none⟩)] w' (fun e w''=>e = .returned (.int .i64 mo)/\w''=w') from by rw [HMO.out,<- km];exact yH g2 k w' (HO7.out.below hb)));have N1:=aj.mk (fun w' (hb:Below w7.heap.size w7 w')=>(show Calls Tryz.prog 47 #[.pointer (some ⟨g,0,none⟩)] w' (fun e w''=>e = .returned (.int .i64 mc)/\w''=w') from by rw [HMC.out];exact ni g ⟨m.w,m.h,m.c,m.most,l⟩ w' (I7.out.below hb)));have N2:=aj.mk (fun w' (hb:Below w7.heap.size w7 w')=>(show Calls Tryz.prog 47 #[.pointer (some ⟨g2,0,none⟩)] w' (fun e w''=>e = .returned (.int .i64 mc)/\w''=w') from by rw [HMC.out,<- kc];exact ni g2 k w' (HO7.out.below hb)));have SA:=aj.mk (aci g2 k w7 HO7.out asb);have v1:(mo != mo)=false:=(by simp);have v2:(mc != mc)=false:=(by simp);have v3:(one != one)=false:=(by simp);clear hmc kc km asb CO
     go_upto_region 24 with (first
       | (go_at_call 44;(with_reducible refine (M2.out _ (Below.refl _ _)).mono ?_);rintro e w7 ⟨rfl,rfl⟩)
       | (go_at_call 44;(with_reducible refine (M1.out _ (Below.refl _ _)).mono ?_);rintro e w7 ⟨rfl,rfl⟩)
       | (go_at_call 47;(with_reducible refine (N2.out _ (Below.refl _ _)).mono ?_);rintro e w7 ⟨rfl,rfl⟩)
       | (go_at_call 47;(with_reducible refine (N1.out _ (Below.refl _ _)).mono ?_);rintro e w7 ⟨rfl,rfl⟩))
     obtain ⟨N,hN⟩:∃ N,N=k.l.length:=⟨_,rfl⟩;have HNL:=aj.mk hN;have lN:N<=268435456:=(by have:=KLN.out;omega);go_wp2_with (go_at_call 49;(with_reducible refine SA.out.mono ?_);rintro e w8 ⟨_,rfl,hv8,hb8⟩;obtain ⟨A8,c8,rfl,-,k8⟩:=Kd.rO hv8;have B8:=aj.mk hb8;have K8:=aj.mk k8;clear hb8 k8 hv8);rw [<- hN] at K8 ⊢;clear hN;go_loopg [94] N (fun kx s94 wr=>∃ (i:Nat),s94 = .int .i64 i/\i<=N/\N - i<=kx/\aj (Below w8.heap.size w8 wr))
     case atStart=>exact ⟨0,rfl,by omega,by omega,⟨Below.refl _ _⟩⟩
     case round =>
       obtain ⟨i,rfl,i1,i2,HB⟩:=hrel;have wq:IntKind.i64.wrap ((i:Int)+1)=(i:Int)+1:=(by rw [jS];exact aC (by omega) (by omega));by_cases hli:(i:Int) < (N:Int);rotate_left
       . go_wp2;go_ret;exact ⟨rfl,ak B7.out (ak B8.out HB.out)⟩
       have p1:(0<=(i:Int)):=(by omega);have q0:i < N:=(by omega);have qd:decide (i < N)=true:=decide_eq_true q0;obtain ⟨ad,e0,x0⟩:=Kd.iZ (Kd.bQ K8.out HB.out) (i:Int) p1 hli;subst e0;rw [Int.toNat_natCast] at x0;rw [KV.out i (by rw [<- HNL.out];exact q0)] at x0;go_wp2;go_roundg (N - (i+1))
       case measure=>omega
       case rel=>exact ⟨i+1,by simp,by omega,Nat.le_refl _,HB⟩
   have HG1:=aj.mk (HGI.out _ _ _ HQ.out);go_wp2_with (go_at_call 46;(with_reducible refine HG1.out.2.1.mono ?_);rintro e w' ⟨rfl,rfl⟩);clear HG1;go_loopg [48] W (fun kx s48 wr=>∃ (x:Nat) (l:List Int),s48 = .int .i64 x/\x<=W/\W - x<=kx/\aj (uP m one w w6 wr g gr ((y*W+x)*C+0) l))
   case atStart=>exact ⟨0,l,rfl,by omega,by omega,HQ⟩
   case round =>
     obtain ⟨x,l1,rfl,j3,j4,HQ1⟩:=hrel;have wj:IntKind.i64.wrap ((x:Int)+1)=(x:Int)+1:=(by rw [jS];exact aC (by omega) (by omega));by_cases hlx:(x:Int) < (W:Int);rotate_left
     . have hx:x=W:=(by omega);subst hx;go_wp2;go_roundg (H - (y+1))
       case measure=>omega
       case rel=>exact ⟨y+1,l1,by simp,by omega,Nat.le_refl _,⟨HQ1.out.cast (by rw [Nat.succ_mul];simp)⟩⟩
     have HG1:=aj.mk (HGI.out _ _ _ HQ1.out);go_wp2_with (go_at_call 47;(with_reducible refine HG1.out.2.2.mono ?_);rintro e w' ⟨rfl,rfl⟩);clear HG1;go_loopg [53] C (fun kx s53 wr=>∃ (c:Nat) (l:List Int),s53 = .int .i64 c/\c<=C/\C - c<=kx/\aj (uP m one w w6 wr g gr ((y*W+x)*C+c) l))
     case atStart=>exact ⟨0,l1,rfl,by omega,by omega,HQ1⟩
     case round =>
       obtain ⟨c,l2,rfl,j5,j6,HQ2⟩:=hrel;have wk:IntKind.i64.wrap ((c:Int)+1)=(c:Int)+1:=(by rw [jS];exact aC (by omega) (by omega));by_cases hlc:(c:Int) < (C:Int);rotate_left
       . have hc:c=C:=(by omega);subst hc;go_wp2;go_roundg (W - (x+1))
         case measure=>omega
         case rel=>exact ⟨x+1,l2,by simp,by omega,Nat.le_refl _,⟨HQ2.out.cast (by rw [Nat.add_zero,<- Nat.add_assoc,Nat.succ_mul])⟩⟩
       have ST:=aj.mk (SET.out x y c l2 wr (by omega) (by omega) (by omega) HQ2.out);go_wp2_with (go_at_call 48;(with_reducible refine ST.out.mono ?_);rintro e w7 ⟨l3,rfl,Q3⟩;have HQ3:=aj.mk Q3;clear Q3);go_roundg (C - (c+1))
       case measure=>omega
       case rel=>exact ⟨c+1,l3,by simp,by omega,Nat.le_refl _,HQ3⟩
section
open Go.ChangeShapes Go.WideShapes Go.ChangeAt
variable {H:Type} {enc:TypeId × Value->H} {W:World} {fuel:Nat} {cs:List Value} {x:DataW H × List MemPlace}
theorem ajO (h:DataW.trod enc Tryz.prog W 0 (fun _=>true) true fuel 44 cs=some x):∃ (A:Option Addr) (l:List Int) (c:Nat),cs=[.slice A l.length c]/\l.length<=c/\Kd.C (Kd.int .i64) W A l.length l/\∀ z ∈ l,I64 z:=by
 rcases open_ints Tryz.underlying44 Tryz.underlying2 (by kernel_rfl) h with ⟨hcs,_⟩|⟨a,len,cap,zs,hcs,_,hl,hm,hz,_,hcell,hwz⟩
 . exact ⟨none,[],0,hcs,by decide,ace W,by simp⟩
 . have hz:zs.length=cap:=(by simpa using hz);obtain ⟨l,e,h1,h2,h3,h4⟩:=uy.apm (k := .i64) (w:=W) (a:=some a) (len:=len) (cap:=cap) (zs:=zs) (.inr ⟨a,rfl,hl,hm,hz,hcell,hwz⟩);subst e;exact ⟨some a,l,cap,hcs,h4,Kd.ahr (d:=(0:Int)) (h1:=fun _=>rfl) h1,fun z hz=>T.wf64 (h3 z hz)⟩
theorem auw (h:DataW.trod enc Tryz.prog W 0 (fun _=>true) true fuel 47 cs=some x):∃ o:S47,k47.K W o cs/\opI o:=by
 obtain ⟨xs,n,_,rfl,hl,hlen,hf⟩:=DataW.trod_struct Tryz.underlying47 h;have hl9:cs.length=9:=hl.trans (by kernel_rfl);match cs,hl9 with
 | [u0,u1,u2,u3,u4,u5,u6,u7,u8],_ =>
 match xs,hlen with
 | [y0,y1,y2,y3,y4,y5,y6,y7,y8],_ =>
 have c0:Tryz.prog.cellsOf 43=1:=(by kernel_rfl);have c1:Tryz.prog.cellsOf 36=1:=(by kernel_rfl);have c2:Tryz.prog.cellsOf 2=1:=(by kernel_rfl);have c3:Tryz.prog.cellsOf 3=1:=(by kernel_rfl);have c4:Tryz.prog.cellsOf 44=1:=(by kernel_rfl);have c6:Tryz.prog.cellsOf 45=1:=(by kernel_rfl);have g0:DataW.trod enc Tryz.prog W 0 (fun _=>true) true n 43 (([u0,u1,u2,u3,u4,u5,u6,u7,u8].drop 0).take (Tryz.prog.cellsOf 43))=some y0:=hf 0 _ rfl;have g1:DataW.trod enc Tryz.prog W 0 (fun _=>true) true n 36 (([u0,u1,u2,u3,u4,u5,u6,u7,u8].drop 1).take (Tryz.prog.cellsOf 36))=some y1:=hf 1 _ rfl;have g2:DataW.trod enc Tryz.prog W 0 (fun _=>true) true n 2 (([u0,u1,u2,u3,u4,u5,u6,u7,u8].drop 2).take (Tryz.prog.cellsOf 2))=some y2:=hf 2 _ rfl;have g3:DataW.trod enc Tryz.prog W 0 (fun _=>true) true n 3 (([u0,u1,u2,u3,u4,u5,u6,u7,u8].drop 3).take (Tryz.prog.cellsOf 3))=some y3:=hf 3 _ rfl;have g4:DataW.trod enc Tryz.prog W 0 (fun _=>true) true n 44 (([u0,u1,u2,u3,u4,u5,u6,u7,u8].drop 4).take (Tryz.prog.cellsOf 44))=some y4:=hf 4 _ rfl;have g5:DataW.trod enc Tryz.prog W 0 (fun _=>true) true n 44 (([u0,u1,u2,u3,u4,u5,u6,u7,u8].drop 5).take (Tryz.prog.cellsOf 44))=some y5:=hf 5 _ rfl;have g6:DataW.trod enc Tryz.prog W 0 (fun _=>true) true n 45 (([u0,u1,u2,u3,u4,u5,u6,u7,u8].drop 6).take (Tryz.prog.cellsOf 45))=some y6:=hf 6 _ rfl;have g7:DataW.trod enc Tryz.prog W 0 (fun _=>true) true n 3 (([u0,u1,u2,u3,u4,u5,u6,u7,u8].drop 7).take (Tryz.prog.cellsOf 3))=some y7:=hf 7 _ rfl;have g8:DataW.trod enc Tryz.prog W 0 (fun _=>true) true n 3 (([u0,u1,u2,u3,u4,u5,u6,u7,u8].drop 8).take (Tryz.prog.cellsOf 3))=some y8:=hf 8 _ rfl;simp only [c0,c1,c2,c3,c4,c6] at g0 g1 g2 g3 g4 g5 g6 g7 g8;simp [List.drop,List.take] at g0 g1 g2 g3 g4 g5 g6 g7 g8;obtain ⟨v0,e0,_,w0⟩:=DataW.trod_int Tryz.underlying43 g0;obtain ⟨v1,e1,_,w1⟩:=DataW.trod_int Tryz.underlying36 g1;obtain ⟨v2,e2,_,w2⟩:=DataW.trod_int Tryz.underlying2 g2;obtain ⟨v3,e3,_,w3⟩:=DataW.trod_int Tryz.underlying3 g3;obtain ⟨A4,l4,k4,e4,m4,r4,w4⟩:=ajO g4;obtain ⟨A5,l5,k5,e5,m5,r5,w5⟩:=ajO g5;obtain ⟨v6,e6,_,w6⟩:=DataW.trod_int Tryz.underlying45 g6;obtain ⟨v7,e7,_,w7⟩:=DataW.trod_int Tryz.underlying3 g7;obtain ⟨v8,e8,_,w8⟩:=DataW.trod_int Tryz.underlying3 g8;simp only [List.cons.injEq,and_true] at e0 e1 e2 e3 e4 e5 e6 e7 e8;subst e0 e1 e2 e3 e4 e5 e6 e7 e8;exact ⟨⟨v0,v1,v2,v3,l4,l5,v6,v7,v8⟩,auS W ⟨v0,v1,v2,v3,l4,l5,v6,v7,v8⟩ m4 r4 m5 r5,T.wf64 w0,T.wf64 w1,T.wf64 w2,T.wf64 w3,w4,w5,T.wf64 w6,T.wf64 w7,T.wf64 w8⟩
theorem ap8 {A:Option Addr} {len cap:Nat} {d:DataW H} {ps:List MemPlace} (h:DataW.Trod enc Tryz.prog W 0 (fun _=>true) true 22 (.slice A len cap) d ps):∃ l:List S47,len=l.length/\Kd.C k47 W A l.length l/\l.length<=cap/\∀ j:Nat,j < l.length->opI (dX l j):=by
 obtain ⟨fuel,hf⟩:=h;rcases DataW.trod_slice Tryz.underlying22 hf with ⟨hcs,_⟩|⟨a,len',cap',elems,rest,n,_,hcs,_,_,hl,hm,hlen,hel,_⟩
 . simp [Value.cells] at hcs;obtain ⟨rfl,rfl,rfl⟩:=hcs;exact ⟨[],rfl,⟨rfl,by decide,fun h=>absurd h (by decide)⟩,by decide,fun j hj=>absurd hj (by simp)⟩
 . simp [Value.cells] at hcs;obtain ⟨rfl,rfl,rfl⟩:=hcs;have c9:Tryz.prog.cellsOf 47=9:=(by kernel_rfl);rw [c9] at hel;have each:∀ i,i < len->∃ o c,k47.K W o c/\opI o/\c.length=9/\∀ j,j < 9->W.cell? ((a.add (i*9)).add j)=c[j]? := by
     intro i hi;have h1:=hel i hi;rw [List.getElem?_eq_getElem (by omega)] at h1;obtain ⟨c,hc,ht⟩:=Option.bind_eq_some_iff.1 h1;obtain ⟨_,hc1,hc2⟩:=World.cells?_some hc;obtain ⟨o,ho,hi2⟩:=auw ht;exact ⟨o,c,ho,hi2,hc1,hc2⟩
   have all:∀ m,m<=len->∃ l:List S47,l.length=m/\∀ i o,l[i]? = some o->opI o/\∃ c,c.length=9/\k47.K W o c/\∀ j,j < 9->W.cell? ((a.add (i*9)).add j)=c[j]? := by
     intro m;induction m with
     | zero=>intro _;exact ⟨[],rfl,by simp⟩
     | succ m ih =>
       intro hm2;obtain ⟨l,h1,h2⟩:=ih (by omega);obtain ⟨o,c,ho,hi2,hc1,hc2⟩:=each m (by omega);refine ⟨l ++ [o],by simp [h1],fun i o' hi3 => ?_⟩;by_cases hi4:i < l.length
       . rw [List.getElem?_append_left hi4] at hi3;exact h2 i o' hi3
       . have:i=m:=by
           have:=(List.getElem?_eq_some_iff.1 hi3).1;simp at this;omega
         subst this;rw [<- h1,List.getElem?_append_right (Nat.le_refl _),Nat.sub_self] at hi3;simp at hi3;subst hi3;exact ⟨hi2,c,hc1,ho,hc2⟩
   obtain ⟨l,h1,h2⟩:=all len (Nat.le_refl _);subst h1;refine ⟨l,rfl,⟨rfl,by unfold maxLen at hm;omega,fun _=>⟨a,rfl,fun j p hp => ?_⟩⟩,hl,fun j hj => ?_⟩
   . obtain ⟨_,c,h3,h4,h5⟩:=h2 j p hp;refine ⟨c,h3,h4,fun i u hu => ?_⟩;have hi:i < 9:=(by rw [<- h3];exact (List.getElem?_eq_some_iff.1 hu).1);have:=h5 i hi;rw [hu] at this;rw [<- this];exact congrArg W.cell? (show a.add (j*9+i)=(a.add (j*9)).add i by unfold Addr.add;by_cases h1:i=0 <;> by_cases h2:j=0 <;> simp [h1,h2,Nat.add_assoc] <;> (split <;> simp_all [Nat.add_assoc]))
   . have e:l[j]? = some (dX l j):=(by unfold dX;rw [Int.toNat_natCast,List.getD_eq_getElem?_getD,List.getElem?_eq_getElem hj];rfl);exact (h2 j _ e).1
end
section
open Go.ChangeShapes Go.WideShapes Go.ChangeAt
variable {H:Type} {enc:TypeId × Value->H} {W:World} {fuel:Nat} {cs:List Value} {x:DataW H × List MemPlace}
theorem ap0 (h:DataW.trod enc Tryz.prog W 0 (fun _=>true) true fuel 80 cs=some x):∃ (A:Option Addr) (l:List Int) (c:Nat),cs=[.slice A l.length c]/\l.length<=c/\Kd.C (Kd.int .u16) W A l.length l/\∀ z ∈ l,0<=z/\z<=65535:=by
 rcases open_ints Tryz.underlying80 Tryz.underlying79 (by kernel_rfl) h with ⟨hcs,_⟩|⟨a,len,cap,zs,hcs,_,hl,hm,hz,_,hcell,hwz⟩
 . exact ⟨none,[],0,hcs,by decide,⟨rfl,by decide,fun h=>absurd h (by decide)⟩,by simp⟩
 . have hz:zs.length=cap:=(by simpa using hz);obtain ⟨l,e,h1,h2,h3,h4⟩:=uy.apm (k := .u16) (w:=W) (a:=some a) (len:=len) (cap:=cap) (zs:=zs) (.inr ⟨a,rfl,hl,hm,hz,hcell,hwz⟩);subst e;exact ⟨some a,l,cap,hcs,h4,Kd.ahr (d:=(0:Int)) (h1:=fun _=>rfl) h1,fun z hz=>T.afP (h3 z hz)⟩
theorem ap7 {cs:Array Value} {d:DataW H} {ps:List MemPlace} (h:DataW.Trod enc Tryz.prog W 0 (fun _=>true) true 82 (.agg cs) d ps):∃ (v0 v1 v2 v3:Int) (A:Option Addr) (l:List Int) (c:Nat),cs = #[.int .u16 v0,.int .u16 v1,.int .u16 v2,.int .u16 v3,.slice A l.length c]/\(0<=v0/\v0<=65535)/\(0<=v1/\v1<=65535)/\(0<=v2/\v2<=65535)/\(0<=v3/\v3<=65535)/\Kd.C (Kd.int .u16) W A l.length l/\l.length<=c/\∀ j:Nat,j < l.length->0<=rd l (j:Int)/\rd l (j:Int)<=65535:=by
 obtain ⟨fuel,hf0⟩:=h;obtain ⟨xs,n,_,_,hl,hlen,hf⟩:=DataW.trod_struct Tryz.underlying82 hf0;obtain ⟨us,hus⟩:∃ us:List Value,us=cs.toList:=⟨_,rfl⟩;have hcs:(Value.agg cs).cells.toList=us:=(by rw [hus];rfl);rw [hcs] at hl hf;have hl5:us.length=5:=hl.trans (by kernel_rfl);match us,hl5,hus with
 | [u0,u1,u2,u3,u4],_,hus =>
 match xs,hlen with
 | [y0,y1,y2,y3,y4],_ =>
 have c0:Tryz.prog.cellsOf 79=1:=(by kernel_rfl);have c4:Tryz.prog.cellsOf 80=1:=(by kernel_rfl);have g0:DataW.trod enc Tryz.prog W 0 (fun _=>true) true n 79 (([u0,u1,u2,u3,u4].drop 0).take (Tryz.prog.cellsOf 79))=some y0:=hf 0 _ rfl;have g1:DataW.trod enc Tryz.prog W 0 (fun _=>true) true n 79 (([u0,u1,u2,u3,u4].drop 1).take (Tryz.prog.cellsOf 79))=some y1:=hf 1 _ rfl;have g2:DataW.trod enc Tryz.prog W 0 (fun _=>true) true n 79 (([u0,u1,u2,u3,u4].drop 2).take (Tryz.prog.cellsOf 79))=some y2:=hf 2 _ rfl;have g3:DataW.trod enc Tryz.prog W 0 (fun _=>true) true n 79 (([u0,u1,u2,u3,u4].drop 3).take (Tryz.prog.cellsOf 79))=some y3:=hf 3 _ rfl;have g4:DataW.trod enc Tryz.prog W 0 (fun _=>true) true n 80 (([u0,u1,u2,u3,u4].drop 4).take (Tryz.prog.cellsOf 80))=some y4:=hf 4 _ rfl;simp only [c0,c4] at g0 g1 g2 g3 g4;simp [List.drop,List.take] at g0 g1 g2 g3 g4;obtain ⟨v0,e0,_,w0⟩:=DataW.trod_int Tryz.underlying79 g0;obtain ⟨v1,e1,_,w1⟩:=DataW.trod_int Tryz.underlying79 g1;obtain ⟨v2,e2,_,w2⟩:=DataW.trod_int Tryz.underlying79 g2;obtain ⟨v3,e3,_,w3⟩:=DataW.trod_int Tryz.underlying79 g3;obtain ⟨A4,l4,k4,e4,m4,r4,w4⟩:=ap0 g4;simp only [List.cons.injEq,and_true] at e0 e1 e2 e3 e4;subst e0 e1 e2 e3 e4;refine ⟨v0,v1,v2,v3,A4,l4,k4,?_,T.afP w0,T.afP w1,T.afP w2,T.afP w3,r4,m4,fun j hj => ?_⟩
 . cases cs with|mk ls=>exact congrArg Array.mk hus.symm
 . refine w4 _ ?_;unfold rd;rw [Int.toNat_natCast,List.getD_eq_getElem?_getD,List.getElem?_eq_getElem hj];exact List.getElem_mem _
end
end Go.Proofs.YtpondkggmcmpfaaGreatDoor.QA
