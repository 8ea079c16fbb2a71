/- Joined by wip/tools/bundle.py out of: TS5 TQ5 TN5 TNr. -/
import Derived.Test.YtpondkggmcmpfaaGreatDoorBDirectNever1
import Derived.Test.YtpondkggmcmpfaaGreatDoorBDirectNever10
import Derived.Test.YtpondkggmcmpfaaGreatDoorBDirectNever3
import Derived.Handy
import Derived.Lib.SliceRun
import Derived.Test.YtpondkggmcmpfaaGreatDoorBDirectNever0
import Derived.Test.YtpondkggmcmpfaaGreatDoorBDirectNever8
import Derived.Test.YtpondkggmcmpfaaGreatDoorBDirectNever11
import Derived.Test.YtpondkggmcmpfaaGreatDoorBDirectNever12
import Derived.Test.YtpondkggmcmpfaaGreatDoorBDirectNever16
import Derived.Test.YtpondkggmcmpfaaGreatDoorBDirectNever17
import Derived.Test.YtpondkggmcmpfaaGreatDoorBDirectNever18
import Derived.Test.YtpondkggmcmpfaaGreatDoorBDirectNever19
import Derived.Test.YtpondkggmcmpfaaGreatDoorBDirectNever20
import Derived.Test.YtpondkggmcmpfaaGreatDoorBDirectNever21
import Derived.Test.YtpondkggmcmpfaaGreatDoorBDirectNever9
import Derived.LaidEqlPtr
import Derived.OwnWalk
import Derived.ProofKit
import Derived.OpenShut
import Derived.ChangeSame
import Derived.LaidMore
import Derived.DataReads
namespace Go.Proofs.YtpondkggmcmpfaaGreatDoor.QA
open Go.RowKit Go.Proofs.YtpondkggmcmpfaaGreatDoorW.PrintWords Go.Proofs.YtpondkggmcmpfaaGreatDoorW.PrintLast Go.Proofs.YtpondkggmcmpfaaGreatDoorW.PrintMore Go.Proofs.YtpondkggmcmpfaaGreatDoor.T
set_option linter.unusedVariables false
set_option linter.unusedSimpArgs false
def acL (l:List S47) (m:Img):Prop:=l.length≤4∧abO l 12=true∧pW l m.w m.h m.c=0
def aor (l:List S47) (m:Img) (w:World) (e:Ending) (w':World):Prop:=Below w.heap.size w w'∧∃ A2 c2 A4 c4,e = .returned (.tuple #[.slice A2 l.length c2,.slice A4 l.length c4,.bool true])∧l.length≤c2∧Kd.C ab1 w' A2 l.length (jg l m.w m.h l.length)∧l.length≤c4∧Kd.C acK w' A4 l.length (zk l m.w m.h l.length)
def aos (w:World) (e:Ending) (w':World):Prop:=Below w.heap.size w w'∧e = .returned (.tuple #[.slice none 0 0,.slice none 0 0,.bool false])
set_option maxHeartbeats 8000000 in
set_option maxRecDepth 100000 in
theorem apF (l:List S47) (A0:Option Addr) (c0:Nat) (b:Nat) (m:Img) (w:World) (hG:GL w) (hI:pU w b m) (hr:Kd.C k47 w A0 l.length l) (hc:l.length≤c0) (hO:∀ j:Nat,j < l.length→opI (dU l j)) :
    Calls Tryz.prog 34 #[.slice A0 l.length c0,.pointer (some ⟨b,0,none⟩)] w (fun e w'=>(acL l m→aor l m w e w')∧(¬ acL l m→aos w e w')):=by
  have LT:=aj.mk (fun w' (hb:Below w.heap.size w w')=>al2 l A0 c0 12 w' (Kd.bK hr hb) hc)
  have lm:=hr.2.1
  have mixed:Tryz.prog.follows .mixedOrders=true:=by kernel_rfl
  have B0:=aj.mk (Below.refl w.heap.size w)
  by_cases h4:(4:Int) < (l.length:Int)
  · have b4:decide ((4:Int) < (l.length:Int))=true:=decide_eq_true h4
    have b4n:decide (4 < l.length)=true:=decide_eq_true (by omega)
    have no:¬ acL l m:=fun h=>by have:=h.1;omega
    have NO:=aj.mk no
    clear hG hI hr hc hO LT no
    go_enter Tryz.func34,Tryz.ntmps34
    go_wp2
    go_ret3
    exact ⟨fun h=>absurd h NO.out,fun _=>⟨B0.out,rfl⟩⟩
  have b4:decide ((4:Int) < (l.length:Int))=false:=decide_eq_false h4
  have b4n:decide (4 < l.length)=false:=decide_eq_false (by omega)
  by_cases hlb:abO l 12=true
  rotate_left
  · have no:¬ acL l m:=fun h=>hlb h.2.1
    have NO:=aj.mk no
    have hlf:abO l 12=false:=by simpa using hlb
    rw [hlf] at LT
    clear hG hI hr hc hO no hlb hlf
    go_enter Tryz.func34,Tryz.ntmps34
    go_wp2_with (go_at_call 13;(with_reducible refine (LT.out _ B0.out).mono ?_);rintro e w1 ⟨rfl,hb1⟩;have B1:=aj.mk hb1;clear hb1)
    go_ret3
    exact ⟨fun h=>absurd h NO.out,fun _=>⟨B1.out,rfl⟩⟩
  have IW:=aj.mk (fun w' (hb:Below w.heap.size w w')=>uM b m w' (hI.below hb))
  have IH:=aj.mk (fun w' (hb:Below w.heap.size w w')=>sG b m w' (hI.below hb))
  have IC:=aj.mk (fun w' (hb:Below w.heap.size w w')=>uD b m w' (hI.below hb))
  have AL:=aj.mk (fun w' (hb:Below w.heap.size w w')=>auM l A0 c0 m.w m.h m.c w' (hG.below hb) (Kd.bK hr hb) hc (fun j hj=>⟨hO j hj,by have:=(uz hlb j hj).1;omega,by have:=(uz hlb j hj).2.1;omega⟩))
  have RF:=aj.mk (fun w' (hb:Below w.heap.size w w')=>at6 l A0 c0 w' (Kd.bK hr hb) hc (by omega))
  have RA:=aj.mk (fun A c w' (h1:Kd.C abQ w' A l.length (l.map toO)) (h2:l.length≤c)=>apE l A c m.w m.h m.c w' h1 h2 (fun j hj=>⟨hO j hj,by have:=(uz hlb j hj).1;omega,by have:=(uz hlb j hj).2.1;omega⟩))
  have OK:=aj.mk (show acL l m↔pW l m.w m.h m.c=0 from ⟨fun h=>h.2.2,fun h=>⟨by omega,hlb,h⟩⟩)
  rw [hlb] at LT
  unfold anJ at AL
  unfold afR at RA
  unfold aor aos
  clear hG hI hr hc hO hlb
  obtain ⟨c,hcc⟩:∃ c,c=pW l m.w m.h m.c:=⟨_,rfl⟩
  rw [← hcc] at AL RA OK
  obtain ⟨ss,hss⟩:∃ x,x=jg l m.w m.h l.length:=⟨_,rfl⟩
  obtain ⟨rs,hrs⟩:∃ x,x=zk l m.w m.h l.length:=⟨_,rfl⟩
  rw [← hss] at AL ⊢
  rw [← hrs] at RA ⊢
  have hsl:ss.length=l.length:=by rw [hss,adO]
  have hrl:rs.length=l.length:=by rw [hrs,agf]
  have HL:=aj.mk (And.intro hsl hrl)
  obtain ⟨mw,hmw⟩:∃ v,v=m.w:=⟨_,rfl⟩
  obtain ⟨mh,hmh⟩:∃ v,v=m.h:=⟨_,rfl⟩
  obtain ⟨mc,hmc⟩:∃ v,v=m.c:=⟨_,rfl⟩
  rw [← hmw] at IW AL RA
  rw [← hmh] at IH AL RA
  rw [← hmc] at IC AL RA
  obtain ⟨n,hn⟩:∃ n,n=l.length:=⟨_,rfl⟩
  rw [← hn] at b4 b4n h4 lm AL LT RF RA HL ⊢
  clear hcc hss hrs hsl hrl hmw hmh hmc hn
  have e2:((n:Int) == (n:Int))=true:=by simp
  by_cases hc0:c=0
  rotate_left
  · have NO:=aj.mk (fun h=>hc0 (OK.out.1 h))
    have bc1:(c == 0)=false:=by simpa using hc0
    simp only [if_neg hc0] at AL RA
    clear hc0 OK
    go_enter Tryz.func34,Tryz.ntmps34
    go_wp2_with (first
      | (go_at_call 13;(with_reducible refine (LT.out _ B0.out).mono ?_);rintro e w1 ⟨rfl,hb1⟩;have B1:=aj.mk hb1;clear hb1)
      | (go_at_call 46;(with_reducible refine (IW.out _ B3.out).mono ?_);rintro e w' ⟨rfl,rfl⟩)
      | (go_at_call 45;(with_reducible refine (IH.out _ B3.out).mono ?_);rintro e w' ⟨rfl,rfl⟩)
      | (go_at_call 47;(with_reducible refine (IC.out _ B3.out).mono ?_);rintro e w' ⟨rfl,rfl⟩)
      | (go_at_call 46;(with_reducible refine (IW.out _ B1.out).mono ?_);rintro e w' ⟨rfl,rfl⟩)
      | (go_at_call 45;(with_reducible refine (IH.out _ B1.out).mono ?_);rintro e w' ⟨rfl,rfl⟩)
      | (go_at_call 47;(with_reducible refine (IC.out _ B1.out).mono ?_);rintro e w' ⟨rfl,rfl⟩)
      | (go_at_call 14;(with_reducible refine (AL.out _ B1.out).mono ?_);rintro e w2 ⟨hb1,rfl⟩;have B2:=aj.mk (ak B1.out hb1);clear hb1)
      | (go_at_call 16;(with_reducible refine (RF.out _ B2.out).mono ?_);rintro e w3 ⟨hb1,A3,c3,rfl,h31,h32⟩;have B3:=aj.mk (ak B2.out hb1);have H3:=aj.mk (And.intro h31 h32);clear hb1 h31 h32)
      | (go_at_call 15;(with_reducible refine (RA.out _ _ _ H3.out.2 H3.out.1).mono ?_);rintro e w4 ⟨hb1,rfl⟩;have B4:=aj.mk (ak B3.out hb1);clear hb1))
    go_ret3
    exact ⟨fun h=>absurd h NO.out,fun _=>⟨B4.out,rfl⟩⟩
  have YES:=aj.mk (OK.out.2 hc0)
  simp only [if_pos hc0] at AL RA
  subst hc0
  clear OK
  go_enter Tryz.func34,Tryz.ntmps34
  go_wp2_with (first
    | (go_at_call 13;(with_reducible refine (LT.out _ B0.out).mono ?_);rintro e w1 ⟨rfl,hb1⟩;have B1:=aj.mk hb1;clear hb1)
    | (go_at_call 46;(with_reducible refine (IW.out _ B3.out).mono ?_);rintro e w' ⟨rfl,rfl⟩)
    | (go_at_call 45;(with_reducible refine (IH.out _ B3.out).mono ?_);rintro e w' ⟨rfl,rfl⟩)
    | (go_at_call 47;(with_reducible refine (IC.out _ B3.out).mono ?_);rintro e w' ⟨rfl,rfl⟩)
    | (go_at_call 46;(with_reducible refine (IW.out _ B1.out).mono ?_);rintro e w' ⟨rfl,rfl⟩)
    | (go_at_call 45;(with_reducible refine (IH.out _ B1.out).mono ?_);rintro e w' ⟨rfl,rfl⟩)
    | (go_at_call 47;(with_reducible refine (IC.out _ B1.out).mono ?_);rintro e w' ⟨rfl,rfl⟩)
    | (go_at_call 14;(with_reducible refine (AL.out _ B1.out).mono ?_);rintro e w2 ⟨hb1,_,rfl,hv⟩;obtain ⟨A2,c2,hv2,l2,g2c⟩:=Kd.qZ hv;rw [HL.out.1] at hv2 l2 g2c;subst hv2;have B2:=aj.mk (ak B1.out hb1);have G2:=aj.mk (And.intro l2 g2c);clear hb1 hv g2c l2)
    | (go_at_call 16;(with_reducible refine (RF.out _ B2.out).mono ?_);rintro e w3 ⟨hb1,A3,c3,rfl,h31,h32⟩;have B3:=aj.mk (ak B2.out hb1);have H3:=aj.mk (And.intro h31 h32);have G3:=aj.mk (And.intro G2.out.1 (Kd.bK G2.out.2 hb1));clear hb1 h31 h32)
    | (go_at_call 15;(with_reducible refine (RA.out _ _ _ H3.out.2 H3.out.1).mono ?_);rintro e w4 ⟨hb1,_,rfl,hv⟩;obtain ⟨A4,c4,hv2,l4,g4c⟩:=Kd.qZ hv;rw [HL.out.2] at hv2 l4 g4c;subst hv2;have B4:=aj.mk (ak B3.out hb1);have G4:=aj.mk (And.intro l4 g4c);have H4:=aj.mk (And.intro G3.out.1 (Kd.bK G3.out.2 hb1));clear hb1 hv l4 g4c))
  go_ret3
  exact ⟨fun _=>⟨B4.out,A2,c2,A4,c4,rfl,H4.out.1,H4.out.2,G4.out.1,G4.out.2⟩,fun h=>absurd YES.out h⟩
end Go.Proofs.YtpondkggmcmpfaaGreatDoor.QA
namespace Go.Proofs.YtpondkggmcmpfaaGreatDoor.QA
open Go.RowKit Go.Proofs.YtpondkggmcmpfaaGreatDoorW.PrintWords Go.Proofs.YtpondkggmcmpfaaGreatDoorW.PrintLast Go.Proofs.YtpondkggmcmpfaaGreatDoorW.PrintMore Go.Proofs.YtpondkggmcmpfaaGreatDoor.T
set_option linter.unusedVariables false
set_option linter.unusedSimpArgs false
theorem amC (l:List S47) (ch a b:Int):∀ (d i:Nat),sS l ch a b i d=0→∀ j,i≤j→j < i+d→iW (dU l j) (nJ l a b j).1 (nJ l a b j).2=0:=by
  intro d
  induction d with
  | zero=>intro i _ j h1 h2;omega
  | succ d ih =>
    intro i h j h1 h2
    rw [sS] at h
    by_cases c:iW (dU l i) (nJ l a b i).1 (nJ l a b i).2=0
    · rw [if_pos c] at h
      by_cases f:zZ (nJ l a b (i+1)).1 (nJ l a b (i+1)).2 ch=true
      · rw [if_pos f] at h
        by_cases e:j=i
        · rw [e];exact c
        · exact ih (i+1) h j (by omega) (by omega)
      · rw [if_neg f] at h;exact absurd h (by decide)
    · rw [if_neg c] at h;exact absurd h c
theorem apG {l:List S47} {a b ch:Int} (h:pW l a b ch=0):l.length≤16∧∀ j,j < l.length→iW (dU l j) (nJ l a b j).1 (nJ l a b j).2=0:=by
  unfold pW at h
  by_cases c:(16:Int) < (l.length:Int)
  · rw [if_pos c] at h;exact absurd h (by decide)
  rw [if_neg c] at h
  by_cases f:zZ a b ch=true
  · rw [if_pos f] at h
    exact ⟨by omega,fun j hj=>amC l ch a b l.length 0 h j (Nat.zero_le _) (by omega)⟩
  · rw [if_neg f] at h;exact absurd h (by decide)
theorem at7 (l:List S47) (a b:Int) (n j:Nat) (h:j < n):sQ (jg l a b n) (j:Int)=ahv l a b j:=by
  unfold sQ jg
  rw [Int.toNat_natCast,List.getD_eq_getElem?_getD,List.getElem?_map,List.getElem?_range h];rfl
theorem aua {o:S47} {W H:Int} (ho:aaA o) (hW:nM W) (hH:nM H):((lD o W).lines.length:Int)=(oW o W H).1∧((lF o H).lines.length:Int)=(oW o W H).2:=by
  have h1:=hW.1;have h2:=hH.1
  unfold lD lF oW
  by_cases h3:o.f0=3
  · rw [if_pos h3,if_pos h3,if_pos h3,sN,sN]
    obtain ⟨a1,a2,a3,a4,a5,a6⟩:=ho.2.2.2.2 h3
    exact ⟨by show ((o.f7.toNat:Nat):Int)=o.f7;omega,by show ((o.f8.toNat:Nat):Int)=o.f8;omega⟩
  · rw [if_neg h3,if_neg h3,if_neg h3,sO,sO]
    exact ⟨by show ((W.toNat:Nat):Int)=W;omega,by show ((H.toNat:Nat):Int)=H;omega⟩
theorem avx {o:S47} {W H:Int} (ho:aaA o) (hW:nM W) (hH:nM H) (hl:xP o 12) (w12:W≤12) (h12:H≤12):1≤(oW o W H).1∧(oW o W H).1≤12∧1≤(oW o W H).2∧(oW o W H).2≤12:=by
  have h1:=hW.1;have h2:=hH.1
  unfold oW
  by_cases h3:o.f0=3
  · rw [if_pos h3]
    obtain ⟨a1,a2,a3,a4,a5,a6⟩:=ho.2.2.2.2 h3
    obtain ⟨-,-,-,-,b1,b2⟩:=hl
    simp only;omega
  · rw [if_neg h3];simp only;omega
theorem apH {t:Tab} (T:Told t) (h1:1≤t.lines.length) (h2:t.lines.length≤65536):aa1 t:=⟨h1,h2,fun j hj=>⟨(T.l j hj).1.2.1,(T.l j hj).1.2.2.1,(T.l j hj).1.2.2.2⟩⟩
theorem aot {o:S47} {m:Img} (B:uK m) (hI:opI o) (hl:xP o 12) (w12:m.w≤12) (h12:m.h≤12) (h:iW o m.w m.h=0):aoh m ⟨lD o m.w,lF o m.h,o.f1⟩∧(abw m ⟨lD o m.w,lF o m.h,o.f1⟩).w≤12∧(abw m ⟨lD o m.w,lF o m.h,o.f1⟩).h≤12∧(abw m ⟨lD o m.w,lF o m.h,o.f1⟩).w=(oW o m.w m.h).1∧(abw m ⟨lD o m.w,lF o m.h,o.f1⟩).h=(oW o m.w m.h).2:=by
  have l1:=hl.1;have l2:=hl.2.1
  obtain ⟨t1,t2,n1,n2,ho,hW,hH⟩:=atY hI (by omega) (by omega) h
  obtain ⟨e1,e2⟩:=aua ho hW hH
  obtain ⟨x1,x2,y1,y2⟩:=avx ho hW hH hl w12 h12
  rw [← e1] at x1 x2
  rw [← e2] at y1 y2
  have LX:aa1 (lD o m.w):=apH t1 (by omega) (by omega)
  have LY:aa1 (lF o m.h):=apH t2 (by omega) (by omega)
  have hc:(m.c.toNat:Int)=1∨(m.c.toNat:Int)=3:=by rcases B.c1 with h|h <;> rw [h] <;> decide
  refine ⟨⟨n1,n2,⟨ho.2.2.1,ho.2.2.2.1⟩,LX,LY,?_⟩,x2,y2,e1,e2⟩
  have m1:((lD o m.w).lines.length:Int)*(lF o m.h).lines.length≤12*12:=Int.le_trans (Int.mul_le_mul_of_nonneg_right x2 (by omega)) (Int.mul_le_mul_of_nonneg_left y2 (by decide))
  show ((lD o m.w).lines.length:Int)*(lF o m.h).lines.length*m.c.toNat≤268435456
  rcases hc with h|h <;> rw [h] <;> omega
theorem arL {l:List S47} {m:Img} (B:uK m) (hO:∀ j:Nat,j < l.length→opI (dU l j)) (hs:acL l m) (w12:m.w≤12) (h12:m.h≤12):∀ i:Nat,i≤l.length→uK (o7 m (jg l m.w m.h l.length) i)∧(o7 m (jg l m.w m.h l.length) i).w≤12∧(o7 m (jg l m.w m.h l.length) i).h≤12∧nJ l m.w m.h i=((o7 m (jg l m.w m.h l.length) i).w,(o7 m (jg l m.w m.h l.length) i).h)∧(o7 m (jg l m.w m.h l.length) i).c=m.c∧(o7 m (jg l m.w m.h l.length) i).most=m.most∧(i < l.length→aoh (o7 m (jg l m.w m.h l.length) i) (sQ (jg l m.w m.h l.length) (i:Int))∧sQ (jg l m.w m.h l.length) (i:Int)=⟨lD (dU l i) (o7 m (jg l m.w m.h l.length) i).w,lF (dU l i) (o7 m (jg l m.w m.h l.length) i).h,(dU l i).f1⟩):=by
  have hz:=apG hs.2.2
  have step:∀ i:Nat,i < l.length→nJ l m.w m.h i=((o7 m (jg l m.w m.h l.length) i).w,(o7 m (jg l m.w m.h l.length) i).h)→sQ (jg l m.w m.h l.length) (i:Int)=⟨lD (dU l i) (o7 m (jg l m.w m.h l.length) i).w,lF (dU l i) (o7 m (jg l m.w m.h l.length) i).h,(dU l i).f1⟩:=by
    intro i hi h
    rw [at7 l m.w m.h l.length i hi,ahv,h]
  intro i
  induction i with
  | zero =>
    intro _
    refine ⟨B,w12,h12,rfl,rfl,rfl,fun hi => ?_⟩
    have e:=step 0 hi rfl
    have k:=aot B (hO 0 hi) (uz hs.2.1 0 hi) w12 h12 (hz.2 0 hi)
    exact ⟨by rw [e];exact k.1,e⟩
  | succ i ih =>
    intro hi
    obtain ⟨b1,b2,b3,b4,b5,b6,b7⟩:=ih (by omega)
    obtain ⟨s1,s2⟩:=b7 (by omega)
    have hzi:=hz.2 i (by omega)
    rw [b4] at hzi
    have k:=aot b1 (hO i (by omega)) (uz hs.2.1 i (by omega)) b2 b3 hzi
    rw [← s2] at k
    have e0:o7 m (jg l m.w m.h l.length) (i+1)=abw (o7 m (jg l m.w m.h l.length) i) (sQ (jg l m.w m.h l.length) (i:Int)):=rfl
    have hsz:nJ l m.w m.h (i+1)=((o7 m (jg l m.w m.h l.length) (i+1)).w,(o7 m (jg l m.w m.h l.length) (i+1)).h):=by
      rw [e0,k.2.2.2.1,k.2.2.2.2,nJ,b4]
    have hB:=avp b1 s1
    rw [← e0] at hB k
    refine ⟨hB,k.2.1,k.2.2.1,hsz,b5,b6,fun hi2 => ?_⟩
    have e:=step (i+1) hi2 hsz
    have hzj:=hz.2 (i+1) hi2
    rw [hsz] at hzj
    have kk:=aot hB (hO (i+1) hi2) (uz hs.2.1 (i+1) hi2) k.2.1 k.2.2.1 hzj
    exact ⟨by rw [e];exact kk.1,e⟩
def aou (m:Img):Prop:=∀ j:Nat,j < m.l.length→0≤rd m.l (j:Int)∧rd m.l (j:Int)≤m.most
theorem avy {m:Img} (B:uK m) (s:Stg):aou (abw m s):=by
  intro j hj
  have h2:=B.m2;have h1:=B.m1
  have hl:(abw m s).l=ac1 m s.bd s.x s.y m.c.toNat:=rfl
  have hm:(abw m s).most=m.most:=rfl
  rw [hl] at hj ⊢
  rw [hm]
  unfold ac1 at hj ⊢
  rw [List.length_map,List.length_range] at hj
  rw [aax _ hj]
  unfold alk aiD
  have h:=adP (aiC m s.bd (j % m.c.toNat) (fH s.x.lines ((j / m.c.toNat % s.x.lines.length:Nat):Int)) (fH s.y.lines ((j / m.c.toNat / s.x.lines.length:Nat):Int))) m.most
  refine ⟨h.1,Int.le_trans h.2 ?_⟩
  unfold mx mn;(repeat' split) <;> omega
theorem avz {m:Img} (h:aou m) {ss:List Stg} (hB:∀ i:Nat,i < ss.length→uK (o7 m ss i)):∀ i:Nat,i≤ss.length→aou (o7 m ss i)
  | 0,_=>h
  | i+1,hi=>avy (hB i (by omega)) _
end Go.Proofs.YtpondkggmcmpfaaGreatDoor.QA
namespace Go.Proofs.YtpondkggmcmpfaaGreatDoor.QA
open Go.RowKit Go.Proofs.YtpondkggmcmpfaaGreatDoorW.PrintWords Go.Proofs.YtpondkggmcmpfaaGreatDoorW.PrintLast Go.Proofs.YtpondkggmcmpfaaGreatDoorW.PrintMore Go.Proofs.YtpondkggmcmpfaaGreatDoor.T
set_option linter.unusedVariables false
set_option linter.unusedSimpArgs false
theorem avA:(Tryz.prog.info? 143).map (fun i=>(i.zero,i.size,i.bytes))=some (some (.agg #[.int .i64 0,.int .i64 0,.int .i64 0,.int .i64 0,.slice none 0 0]),5,56):=by kernel_rfl
theorem avC {wd ht c most:Int} {l:List Int} (h1:0≤wd) (h2:0≤ht) (h3:0≤c) (h4:0≤most):uK (drI wd ht c most l)∧(∀ j:Nat,j < (drI wd ht c most l).l.length→0≤rd (drI wd ht c most l).l (j:Int)∧rd (drI wd ht c most l).l (j:Int)≤(drI wd ht c most l).most)∧(drI wd ht c most l).l.length≤268435456∧(drI wd ht c most l).w≤20∧(drI wd ht c most l).h≤20:=by
  obtain ⟨q1,q2,q3,q4⟩:=akY h1 h2 h3 h4
  obtain ⟨q5,q6,q7,q8⟩:=auB h1 h2 h3
  have el:(drI wd ht c most l).l.length=(drW wd*drW ht*drK c).toNat:=by show (List.map _ (List.range _)).length=_;simp
  refine ⟨⟨q1.1,Int.le_trans q1.2 (by decide),q2.1,Int.le_trans q2.2 (by decide),q3,q4.1,q4.2,?_,Int.le_trans q6 (by decide)⟩,fun j hj => ?_,?_,q1.2,q2.2⟩
  · rw [el];exact Int.toNat_of_nonneg (by omega)
  · have e:rd (drI wd ht c most l).l (j:Int)=drV (drT most) l j:=by
      rw [el] at hj
      show rd (List.map _ (List.range _)) _=_
      unfold rd
      rw [Int.toNat_natCast,List.getD_eq_getElem?_getD,List.getElem?_map,List.getElem?_range hj];rfl
    rw [e]
    exact aix q4.1 l j
  · rw [el];omega
theorem aw9 {wd ht c most:Int} {l:List Int} (h1:0≤wd) (h2:0≤ht) (h3:0≤c) (h4:0≤most):uK (drI (wd % 12) (ht % 12) c most l)∧aou (drI (wd % 12) (ht % 12) c most l)∧(drI (wd % 12) (ht % 12) c most l).l.length≤268435456∧(drI (wd % 12) (ht % 12) c most l).w≤12∧(drI (wd % 12) (ht % 12) c most l).h≤12:=by
  obtain ⟨a,b,d,-,-⟩:=avC (wd:=wd % 12) (ht:=ht % 12) (c:=c) (most:=most) (l:=l) (by omega) (by omega) h3 h4
  refine ⟨a,b,d,?_,?_⟩
  · show drW (wd % 12)≤12
    unfold drW;omega
  · show drW (ht % 12)≤12
    unfold drW;omega
theorem aub (w:World) (v0 v1 v2 v3 v4:Value):∃ W1 g,W1=w.alloc (.cells #[v0,v1,v2,v3,v4] 82)∧g=w.heap.size∧W1.heap[g]? = some (.cells #[v0,v1,v2,v3,v4] 82 (0,0))∧Below w.heap.size w W1:=⟨_,_,rfl,rfl,heap_alloc_new w _,aT (Below.refl _ _) _⟩
theorem avD {w:World} {a b:Nat} {ca cb:Array Value} {ta tb:TypeId} (hn:a≠b) (ha:w.heap[a]? = some (.cells ca ta (0,0))) (hb:w.heap[b]? = some (.cells cb tb (0,0))):(binOp .neq 83 (.pointer (some ⟨a,0,none⟩)) (.pointer (some ⟨b,0,none⟩))).run Tryz.prog w = .ok (.bool true) w:=by
  obtain ⟨i,hi,hz,hsz,hby⟩:=info_parts avA
  have h:∀ d:Nat,(Op.equalIn (d+1) 83 (.pointer (some ⟨a,0,none⟩)) (.pointer (some ⟨b,0,none⟩))).run Tryz.prog w = .ok false w:=fun d=>by
    simp [Op.equalIn,run_underlying Tryz.underlying83,sizeOf,typeInfo,hi,hsz,run_sameAddr_other w (a:=⟨a,0,none⟩) (b:=⟨b,0,none⟩) (fun q=>by cases q;exact hn rfl) ha hb]
  simp only [binOp]
  simp [Op.equal,Op.maxDepth,h 9999]
set_option maxHeartbeats 8000000 in
set_option maxRecDepth 100000 in
theorem afY (wd ht c most:Int) (A0:Option Addr) (c0:Nat) (l:List Int) (L:List S47) (A1:Option Addr) (c1:Nat) (w:World) (hG:GL w) (hr:Kd.C k47 w A1 L.length L) (hc:L.length≤c1) (hO:∀ j:Nat,j < L.length→opI (dU L j)) (h1:0≤wd∧wd≤65535) (h2:0≤ht∧ht≤65535) (h3:0≤c∧c≤65535) (h4:0≤most∧most≤65535) (hr0:Kd.C (Kd.int .u16) w A0 l.length l) (hc0:l.length≤c0) (hv:∀ j:Nat,j < l.length→0≤rd l (j:Int)∧rd l (j:Int)≤65535) :
    Calls Tryz.prog 11 #[.agg #[.int .u16 wd,.int .u16 ht,.int .u16 c,.int .u16 most,.slice A0 l.length c0],.slice A1 L.length c1] w fun e w'=>e = .returned (.bool true)∧Below w.heap.size w w':=by
  have LV:=aj.mk (fun w' (hb:Below w.heap.size w w')=>ajV w' (hG.below hb))
  have PC:=aj.mk (fun w' (hb:Below w.heap.size w w')=>ajM wd ht c most A0 c0 l w' h1 h2 h3 h4 (Kd.bK hr0 hb) hc0 hv)
  have HG:=aj.mk (fun w' (hb:Below w.heap.size w w')=>hG.below hb)
  obtain ⟨MB,MV,ML,MW,MH⟩:=aw9 (l:=l) h1.1 h2.1 h3.1 h4.1
  generalize drI (wd % 12) (ht % 12) c most l=m at PC MB MV ML MW MH
  have SG:=aj.mk (fun b w' (hb:Below w.heap.size w w') (hi:pU w' b m)=>apF L A1 c1 b m w' (hG.below hb) hi (Kd.bK hr hb) hc hO)
  have CH:=aj.mk (fun (hs:acL L m)=>arL MB hO hs MW MH)
  obtain ⟨n0,hn0⟩:∃ n,n=l.length:=⟨_,rfl⟩
  rw [← hn0] at PC ⊢
  obtain ⟨W1,r,e1,hr1,h1',hb1⟩:=aub w (.int .u16 wd) (.int .u16 ht) (.int .u16 c) (.int .u16 most) (.slice A0 n0 c0)
  have E1:=aj.mk e1
  have ER:=aj.mk hr1
  have HR:=aj.mk h1'
  have BX:=aj.mk hb1
  have mixed:Tryz.prog.follows .mixedOrders=true:=by kernel_rfl
  have HMB:=aj.mk (And.intro MB (And.intro MV (And.intro ML (And.intro MW MH))))
  clear hr hG hc hO hv hn0 h1 h2 h3 h4 MB MV ML MW MH e1 hr1 h1' hb1 hr0 hc0
  by_cases hk:acL L m
  rotate_left
  · have SN:aj (∀ b w',Below w.heap.size w w'→pU w' b m→Calls Tryz.prog 34 #[.slice A1 L.length c1,.pointer (some ⟨b,0,none⟩)] w' (aos w')):=⟨fun b w' hb hi=>(SG.out b w' hb hi).mono (fun e w'' h=>h.2 hk)⟩
    unfold aos at SN
    clear SG CH hk
    go_enter Tryz.func11,Tryz.ntmps11
    go_upto_region 1 with fail
    rw [← ER.out,← E1.out]
    go_upto_region 3 with (go_at_call 32;refine (LV.out _ BX.out).mono ?_;rintro e w4 ⟨rfl,hb4⟩;have B4:=aj.mk (ak BX.out hb4);have HR4:=aj.mk (aA HR.out hb4);clear hb4)
    obtain ⟨s0,s1,s2,s3,s4⟩:=cells5 HR4.out
    go_upto_region 4 with (go_at_call 33;refine (PC.out _ B4.out).mono ?_;rintro e w5 ⟨g,rfl,hi,hb5⟩;have B5:=aj.mk (ak B4.out hb5);have HI:=aj.mk hi;clear hi hb5)
    clear s0 s1 s2 s3 s4 HR4 B4
    go_wp2_with (go_at_call 34;(with_reducible refine (SN.out g w5 B5.out HI.out).mono ?_);rintro e w6 ⟨hb6,rfl⟩;have B6:=aj.mk (ak B5.out hb6);clear hb6)
    go_ret
    exact ⟨rfl,B6.out⟩
  have SY:aj (∀ b w',Below w.heap.size w w'→pU w' b m→Calls Tryz.prog 34 #[.slice A1 L.length c1,.pointer (some ⟨b,0,none⟩)] w' (aor L m w')):=⟨fun b w' hb hi=>(SG.out b w' hb hi).mono (fun e w'' h=>h.1 hk)⟩
  unfold aor at SY
  have CH2:=aj.mk (CH.out hk)
  have HL4:L.length≤4:=hk.1
  clear SG CH hk
  have hsl:(jg L m.w m.h L.length).length=L.length:=adO _ _ _ _
  generalize jg L m.w m.h L.length=ss at SY CH2 hsl
  obtain ⟨n,hn⟩:∃ n,n=L.length:=⟨_,rfl⟩
  rw [← hn] at SY HL4 hsl ⊢
  have HN:=aj.mk (And.intro hn hsl)
  clear hn hsl
  go_enter Tryz.func11,Tryz.ntmps11
  go_upto_region 1 with fail
  rw [← ER.out,← E1.out]
  go_upto_region 3 with (go_at_call 32;refine (LV.out _ BX.out).mono ?_;rintro e w4 ⟨rfl,hb4⟩;have B4:=aj.mk (ak BX.out hb4);have HR4:=aj.mk (aA HR.out hb4);clear hb4)
  obtain ⟨s0,s1,s2,s3,s4⟩:=cells5 HR4.out
  go_upto_region 4 with (go_at_call 33;refine (PC.out _ B4.out).mono ?_;rintro e w5 ⟨g,rfl,hi,hb5⟩;have B5:=aj.mk (ak B4.out hb5);have HI:=aj.mk hi;clear hi hb5)
  clear s0 s1 s2 s3 s4 HR4 B4
  go_upto_region 7 with (go_at_call 34;(with_reducible refine (SY.out g w5 B5.out HI.out).mono ?_);rintro e w6 ⟨hb6,A2,c2,A4,c4,rfl,q2,k2,q4,k4⟩;have B6:=aj.mk (ak B5.out hb6);have HI6:=aj.mk (HI.out.below hb6);have K2:=aj.mk k2;have K4:=aj.mk (And.intro q4 k4);clear hb6 q2 k2 q4 k4)
  have CO:=aj.mk (aoi g m A2 n c2 ss w6 (HG.out _ B6.out) HI6.out HMB.out.2.2.1 K2.out (by omega) (fun i hi=>⟨(CH2.out i (by have:=HN.out.1;omega)).1,((CH2.out i (by have:=HN.out.1;omega)).2.2.2.2.2.2 (by have:=HN.out.1;omega)).1⟩))
  have LST:=CH2.out n (by have:=HN.out.1;omega)
  have SMP:=avz HMB.out.2.1 (ss:=ss) (fun i hi=>(CH2.out i (by have:=HN.out.1;have:=HN.out.2;omega)).1) n (by have:=HN.out.2;omega)
  obtain ⟨k,hk⟩:∃ k,k=o7 m ss n:=⟨_,rfl⟩
  rw [← hk] at CO LST SMP
  have HK:=aj.mk hk
  have HLS:=aj.mk LST
  have HSM:=aj.mk SMP
  have aov:k.most=m.most:=LST.2.2.2.2.2.1
  have arM:k.l.length≤268435456:=by have h1:=LST.1.n;have h2:=LST.1.n2;omega
  clear hk LST SMP
  go_upto_region 8 with (go_at_call 42;(with_reducible refine CO.out.mono ?_);rintro e w7 ⟨hb7,g2,rfl,hi7⟩;have B7:=aj.mk (ak B6.out hb7);have HI7:=aj.mk (HI6.out.below hb7);have HO7:=aj.mk hi7;have K7:=aj.mk (Kd.bK K2.out hb7);have hne:g2≠g:=(by have h1:=hi7.1;obtain ⟨_,_,h2,_⟩:=HI6.out;have h3:=bC h2;omega);clear hb7 hi7)
  have M1:=aj.mk (fun w' (hb:Below w7.heap.size w7 w')=>abo g m w' (HI7.out.below hb))
  have M2:=aj.mk (fun w' (hb:Below w7.heap.size w7 w')=>abo g2 k w' (HO7.out.reads.below hb))
  have SA:=aj.mk (abS g2 k w7 HO7.out.reads arM)
  rw [aov] at M2
  obtain ⟨mo,hmo⟩:∃ v,v=m.most:=⟨_,rfl⟩
  rw [← hmo] at M1 M2
  have v1:(mo != mo)=false:=by simp
  have HMO:=aj.mk (And.intro hmo aov)
  have KLN:=aj.mk arM
  clear aov hmo arM
  go_upto_region 10 with (first
    | (go_at_call 44;(with_reducible refine (M2.out _ (Below.refl _ _)).mono ?_);rintro e w' ⟨rfl,rfl⟩)
    | (go_at_call 44;(with_reducible refine (M1.out _ (Below.refl _ _)).mono ?_);rintro e w' ⟨rfl,rfl⟩))
  obtain ⟨N,hN⟩:∃ N,N=k.l.length:=⟨_,rfl⟩
  have HNL:=aj.mk hN
  have lN:N≤268435456:=by have:=KLN.out;omega
  go_wp2_with (go_at_call 49;(with_reducible refine SA.out.mono ?_);rintro e w8 ⟨_,rfl,hv8,hb8⟩;obtain ⟨A8,c8,rfl,-,k8⟩:=Kd.qZ hv8;have B8:=aj.mk hb8;have K8:=aj.mk k8;clear hb8 k8 hv8)
  rw [← hN] at K8 ⊢
  clear hN
  go_loopg [52] N (fun kx s52 wr=>∃ (i:Nat),s52 = .int .i64 i∧i≤N∧N - i≤kx∧aj (Below w8.heap.size w8 wr))
  case atStart=>exact ⟨0,rfl,by omega,by omega,⟨Below.refl _ _⟩⟩
  case round =>
    obtain ⟨i,rfl,i1,i2,HB⟩:=hrel
    have wi:IntKind.i64.wrap ((i:Int)+1)=(i:Int)+1:=by rw [kU];exact aC (by omega) (by omega)
    by_cases hlt:(i:Int) < (N:Int)
    rotate_left
    · have him:i=N:=by omega
      subst him
      clear hlt wi i1 i2
      have B9:=aj.mk (ak B8.out HB.out)
      have BW:=aj.mk (ak B7.out B9.out)
      rcases Nat.eq_zero_or_pos n with hz|hz
      · subst hz
        have hkm:k=m:=HK.out
        subst hkm
        have SM:=aj.mk (ajL g2 g k wr ((HO7.out.reads).below B9.out) (HI7.out.below B9.out) KLN.out)
        have PN:aj (∀ nd,(binOp .neq 83 (.pointer (some ⟨g2,0,none⟩)) (.pointer (some ⟨g,0,none⟩))).run Tryz.prog (wr.drewN nd) = .ok (.bool true) (wr.drewN nd)):=⟨fun nd=>by
          obtain ⟨_,_,q1,-,-⟩:=((HO7.out.reads).below B9.out).below (aI (Below.refl _ _) nd)
          obtain ⟨_,_,q2,-,-⟩:=(HI7.out.below B9.out).below (aI (Below.refl _ _) nd)
          exact avD hne q1 q2⟩
        go_wp2_with (go_at_call 50;(with_reducible refine SM.out.mono ?_);rintro e w9 ⟨rfl,⟨nd,rfl⟩⟩;have pn:=PN.out nd)
        go_ret
        exact ⟨rfl,aI BW.out nd⟩
      · have hz1:((n:Int) == 0)=false:=by rw [beq_eq_false_iff_ne];omega
        have hz2:(0:Int) < (n:Int):=by omega
        have hz3:decide (0 < n)=true:=decide_eq_true hz
        obtain ⟨c1',c2',c3',c4',c5',c6',c7'⟩:=CH2.out 0 (by have:=HN.out.1;omega)
        obtain ⟨so,-⟩:=c7' (by have:=HN.out.1;omega)
        obtain ⟨ad,bx,bz,e0,y0,y1,y2,tx,ty⟩:=apq (Kd.bK K7.out B9.out) 0 (Int.le_refl _) hz2
        subst e0
        have AP:=aj.mk (agE g bx bz m _ _ _ m.c.toNat wr (HG.out _ BW.out) (HI7.out.below B9.out) tx ty so.e1 so.e2 so.b HMB.out.1 (by rcases HMB.out.1.c1 with h|h <;> rw [h] <;> rfl) so.X so.Y so.n)
        have TX:=aj.mk tx
        have TY:=aj.mk ty
        have hs0:((0:Nat):Int)=0:=rfl
        rw [hs0] at AP
        generalize sQ ss 0=st at AP TX TY y2
        unfold stV at AP
        obtain ⟨bd,hbd⟩:∃ v,v=st.bd:=⟨_,rfl⟩
        rw [← hbd] at AP y2
        obtain ⟨X,hX⟩:∃ v,v=st.x.lines.length:=⟨_,rfl⟩
        obtain ⟨Y,hY⟩:∃ v,v=st.y.lines.length:=⟨_,rfl⟩
        have HXY:=aj.mk (And.intro hX hY)
        have ea:ad.add 0=ad:=rfl
        simp only [Int.toNat_zero,Nat.zero_mul] at y0 y1 y2
        rw [ea] at y0 y1 y2
        have YS:=aj.mk (And.intro y0 (And.intro y1 y2))
        clear so c1' c2' c3' c4' c5' c6' c7' tx ty hs0 hbd hX hY ea
        go_upto_region 19 with (go_at_call 36;(with_reducible refine AP.out.mono ?_);rintro e w9 ⟨g3,rfl,hi9,hb9⟩;have B10:=aj.mk hb9;have HO9:=aj.mk hi9.reads;clear hi9 hb9)
        clear y0 y1 y2
        obtain ⟨y0,y1,y2⟩:=YS.out
        replace y0:=(B10.out.cell (World.block_lt_of_cell? wr _ y0)).trans y0
        replace y1:=(B10.out.cell (World.block_lt_of_cell? wr _ y1)).trans y1
        replace y2:=(B10.out.cell (World.block_lt_of_cell? wr _ y2)).trans y2
        have I1:=aj.mk (fun q=>uM g3 _ (w9.drewN q) (HO9.out.below (aI (Below.refl _ _) q)))
        have I2:=aj.mk (fun q=>sG g3 _ (w9.drewN q) (HO9.out.below (aI (Below.refl _ _) q)))
        have T1:=aj.mk (fun q=>aaz bx st.x (w9.drewN q) ((TX.out.below B10.out).below (aI (Below.refl _ _) q)))
        have T2:=aj.mk (fun q=>aaz bz st.y (w9.drewN q) ((TY.out.below B10.out).below (aI (Below.refl _ _) q)))
        simp only at I1 I2
        rw [← HXY.out.1] at I1 T1
        rw [← HXY.out.2] at I2 T2
        have u1:((X:Int) == (X:Int))=true:=by simp
        have u2:((Y:Int) == (Y:Int))=true:=by simp
        go_quiet (first
          | (go_at_call 46;exact Calls.quiet_of_same (I1.out _))
          | (go_at_call 45;exact Calls.quiet_of_same (I2.out _))
          | (go_at_call 22;with_reducible exact Calls.quiet_of_same (T1.out _))
          | (go_at_call 22;with_reducible exact Calls.quiet_of_same (T2.out _)))
        go_wp2
        go_ret
        exact ⟨rfl,ak BW.out (aI B10.out nq)⟩
    have p1:(0≤(i:Int)):=by omega
    have q0:i < N:=by omega
    have qd:decide (i < N)=true:=decide_eq_true q0
    obtain ⟨ad,e0,x0⟩:=Kd.iI (Kd.bK K8.out HB.out) (i:Int) p1 hlt
    subst e0
    rw [Int.toNat_natCast] at x0
    have sb:=HSM.out i (by rw [← HNL.out];exact q0)
    rw [HMO.out.2,← HMO.out.1] at sb
    have mb:=HMB.out.1.m2
    rw [← HMO.out.1] at mb
    obtain ⟨v,hvv⟩:∃ v,v=rd k.l (i:Int):=⟨_,rfl⟩
    rw [← hvv] at x0 sb
    have wv:IntKind.i64.wrap v=v:=by rw [kU];exact aC (by omega) (by omega)
    have d1:decide (mo < v)=false:=decide_eq_false (by omega)
    have e1:¬ mo < v:=by omega
    clear hvv mb sb
    go_wp2_with (go_at_call 44;(with_reducible refine (M1.out _ (ak B8.out HB.out)).mono ?_);rintro e w' ⟨rfl,rfl⟩)
    go_roundg (N - (i+1))
    case measure=>omega
    case rel=>exact ⟨i+1,by simp,by omega,Nat.le_refl _,HB⟩
end Go.Proofs.YtpondkggmcmpfaaGreatDoor.QA
namespace Go.Proofs.YtpondkggmcmpfaaGreatDoor.QA
open Go.RowKit Go.Proofs.YtpondkggmcmpfaaGreatDoorW.PrintWords Go.Proofs.YtpondkggmcmpfaaGreatDoorW.PrintLast Go.Proofs.YtpondkggmcmpfaaGreatDoorW.PrintMore Go.Proofs.YtpondkggmcmpfaaGreatDoor.T
set_option linter.unusedVariables false
set_option linter.unusedSimpArgs false
section
open Go.ChangeShapes Go.WideShapes Go.ChangeAt
variable {H:Type} {enc:TypeId × Value→H} {W:World} {fuel:Nat} {cs:List Value} {x:DataW H × List MemPlace}
theorem ajy (h:DataW.trod enc Tryz.prog W 0 (fun _=>true) true fuel 44 cs=some x):∃ (A:Option Addr) (l:List Int) (c:Nat),cs=[.slice A l.length c]∧l.length≤c∧Kd.C (Kd.int .i64) W A l.length l∧∀ z ∈ l,I64 z:=by
  rcases open_ints Tryz.underlying44 Tryz.underlying2 (by kernel_rfl) h with ⟨hcs,_⟩|⟨a,len,cap,zs,hcs,_,hl,hm,hz,_,hcell,hwz⟩
  · exact ⟨none,[],0,hcs,by decide,abY W,by simp⟩
  · have hz:zs.length=cap:=by simpa using hz
    obtain ⟨l,e,h1,h2,h3,h4⟩:=tZ.ao3 (k := .i64) (w:=W) (a:=some a) (len:=len) (cap:=cap) (zs:=zs) (.inr ⟨a,rfl,hl,hm,hz,hcell,hwz⟩)
    subst e
    exact ⟨some a,l,cap,hcs,h4,Kd.ahf (d:=(0:Int)) (h1:=fun _=>rfl) h1,fun z hz=>T.wf64 (h3 z hz)⟩
set_option maxRecDepth 100000 in
theorem auc (h:DataW.trod enc Tryz.prog W 0 (fun _=>true) true fuel 47 cs=some x):∃ o:S47,k47.K W o cs∧opI o:=by
  obtain ⟨xs,n,_,rfl,hl,hlen,hf⟩:=DataW.trod_struct Tryz.underlying47 h
  have hl9:cs.length=9:=hl.trans (by kernel_rfl)
  match cs,hl9 with
  | [u0,u1,u2,u3,u4,u5,u6,u7,u8],_ =>
  match xs,hlen with
  | [y0,y1,y2,y3,y4,y5,y6,y7,y8],_ =>
  have c0:Tryz.prog.cellsOf 43=1:=by kernel_rfl
  have c1:Tryz.prog.cellsOf 36=1:=by kernel_rfl
  have c2:Tryz.prog.cellsOf 2=1:=by kernel_rfl
  have c3:Tryz.prog.cellsOf 3=1:=by kernel_rfl
  have c4:Tryz.prog.cellsOf 44=1:=by kernel_rfl
  have c6:Tryz.prog.cellsOf 45=1:=by kernel_rfl
  have g0:DataW.trod enc Tryz.prog W 0 (fun _=>true) true n 43 (([u0,u1,u2,u3,u4,u5,u6,u7,u8].drop 0).take (Tryz.prog.cellsOf 43))=some y0:=hf 0 _ rfl
  have g1:DataW.trod enc Tryz.prog W 0 (fun _=>true) true n 36 (([u0,u1,u2,u3,u4,u5,u6,u7,u8].drop 1).take (Tryz.prog.cellsOf 36))=some y1:=hf 1 _ rfl
  have g2:DataW.trod enc Tryz.prog W 0 (fun _=>true) true n 2 (([u0,u1,u2,u3,u4,u5,u6,u7,u8].drop 2).take (Tryz.prog.cellsOf 2))=some y2:=hf 2 _ rfl
  have g3:DataW.trod enc Tryz.prog W 0 (fun _=>true) true n 3 (([u0,u1,u2,u3,u4,u5,u6,u7,u8].drop 3).take (Tryz.prog.cellsOf 3))=some y3:=hf 3 _ rfl
  have g4:DataW.trod enc Tryz.prog W 0 (fun _=>true) true n 44 (([u0,u1,u2,u3,u4,u5,u6,u7,u8].drop 4).take (Tryz.prog.cellsOf 44))=some y4:=hf 4 _ rfl
  have g5:DataW.trod enc Tryz.prog W 0 (fun _=>true) true n 44 (([u0,u1,u2,u3,u4,u5,u6,u7,u8].drop 5).take (Tryz.prog.cellsOf 44))=some y5:=hf 5 _ rfl
  have g6:DataW.trod enc Tryz.prog W 0 (fun _=>true) true n 45 (([u0,u1,u2,u3,u4,u5,u6,u7,u8].drop 6).take (Tryz.prog.cellsOf 45))=some y6:=hf 6 _ rfl
  have g7:DataW.trod enc Tryz.prog W 0 (fun _=>true) true n 3 (([u0,u1,u2,u3,u4,u5,u6,u7,u8].drop 7).take (Tryz.prog.cellsOf 3))=some y7:=hf 7 _ rfl
  have g8:DataW.trod enc Tryz.prog W 0 (fun _=>true) true n 3 (([u0,u1,u2,u3,u4,u5,u6,u7,u8].drop 8).take (Tryz.prog.cellsOf 3))=some y8:=hf 8 _ rfl
  simp only [c0,c1,c2,c3,c4,c6] at g0 g1 g2 g3 g4 g5 g6 g7 g8
  simp [List.drop,List.take] at g0 g1 g2 g3 g4 g5 g6 g7 g8
  obtain ⟨v0,e0,_,w0⟩:=DataW.trod_int Tryz.underlying43 g0
  obtain ⟨v1,e1,_,w1⟩:=DataW.trod_int Tryz.underlying36 g1
  obtain ⟨v2,e2,_,w2⟩:=DataW.trod_int Tryz.underlying2 g2
  obtain ⟨v3,e3,_,w3⟩:=DataW.trod_int Tryz.underlying3 g3
  obtain ⟨A4,l4,k4,e4,m4,r4,w4⟩:=ajy g4
  obtain ⟨A5,l5,k5,e5,m5,r5,w5⟩:=ajy g5
  obtain ⟨v6,e6,_,w6⟩:=DataW.trod_int Tryz.underlying45 g6
  obtain ⟨v7,e7,_,w7⟩:=DataW.trod_int Tryz.underlying3 g7
  obtain ⟨v8,e8,_,w8⟩:=DataW.trod_int Tryz.underlying3 g8
  simp only [List.cons.injEq,and_true] at e0 e1 e2 e3 e4 e5 e6 e7 e8
  subst e0 e1 e2 e3 e4 e5 e6 e7 e8
  exact ⟨⟨v0,v1,v2,v3,l4,l5,v6,v7,v8⟩,auw W ⟨v0,v1,v2,v3,l4,l5,v6,v7,v8⟩ m4 r4 m5 r5,T.wf64 w0,T.wf64 w1,T.wf64 w2,T.wf64 w3,w4,w5,T.wf64 w6,T.wf64 w7,T.wf64 w8⟩
theorem apS {A:Option Addr} {len cap:Nat} {d:DataW H} {ps:List MemPlace} (h:DataW.Trod enc Tryz.prog W 0 (fun _=>true) true 22 (.slice A len cap) d ps):∃ l:List S47,len=l.length∧Kd.C k47 W A l.length l∧l.length≤cap∧∀ j:Nat,j < l.length→opI (dU l j):=by
  obtain ⟨fuel,hf⟩:=h
  rcases DataW.trod_slice Tryz.underlying22 hf with ⟨hcs,_⟩|⟨a,len',cap',elems,rest,n,_,hcs,_,_,hl,hm,hlen,hel,_⟩
  · simp [Value.cells] at hcs
    obtain ⟨rfl,rfl,rfl⟩:=hcs
    exact ⟨[],rfl,⟨rfl,by decide,fun h=>absurd h (by decide)⟩,by decide,fun j hj=>absurd hj (by simp)⟩
  · simp [Value.cells] at hcs
    obtain ⟨rfl,rfl,rfl⟩:=hcs
    have c9:Tryz.prog.cellsOf 47=9:=by kernel_rfl
    rw [c9] at hel
    have each:∀ i,i < len→∃ o c,k47.K W o c∧opI o∧c.length=9∧∀ j,j < 9→W.cell? ((a.add (i*9)).add j)=c[j]? := by
      intro i hi
      have h1:=hel i hi
      rw [List.getElem?_eq_getElem (by omega)] at h1
      obtain ⟨c,hc,ht⟩:=Option.bind_eq_some_iff.1 h1
      obtain ⟨_,hc1,hc2⟩:=World.cells?_some hc
      obtain ⟨o,ho,hi2⟩:=auc ht
      exact ⟨o,c,ho,hi2,hc1,hc2⟩
    have all:∀ m,m≤len→∃ l:List S47,l.length=m∧∀ i o,l[i]? = some o→opI o∧∃ c,c.length=9∧k47.K W o c∧∀ j,j < 9→W.cell? ((a.add (i*9)).add j)=c[j]? := by
      intro m
      induction m with
      | zero=>intro _;exact ⟨[],rfl,by simp⟩
      | succ m ih =>
        intro hm2
        obtain ⟨l,h1,h2⟩:=ih (by omega)
        obtain ⟨o,c,ho,hi2,hc1,hc2⟩:=each m (by omega)
        refine ⟨l ++ [o],by simp [h1],fun i o' hi3 => ?_⟩
        by_cases hi4:i < l.length
        · rw [List.getElem?_append_left hi4] at hi3
          exact h2 i o' hi3
        · have:i=m:=by
            have:=(List.getElem?_eq_some_iff.1 hi3).1
            simp at this;omega
          subst this
          rw [← h1,List.getElem?_append_right (Nat.le_refl _),Nat.sub_self] at hi3
          simp at hi3
          subst hi3
          exact ⟨hi2,c,hc1,ho,hc2⟩
    obtain ⟨l,h1,h2⟩:=all len (Nat.le_refl _)
    subst h1
    refine ⟨l,rfl,⟨rfl,by unfold maxLen at hm;omega,fun _=>⟨a,rfl,fun j p hp => ?_⟩⟩,hl,fun j hj => ?_⟩
    · obtain ⟨_,c,h3,h4,h5⟩:=h2 j p hp
      refine ⟨c,h3,h4,fun i u hu => ?_⟩
      have hi:i < 9:=by rw [← h3];exact (List.getElem?_eq_some_iff.1 hu).1
      have:=h5 i hi
      rw [hu] at this
      rw [← this]
      exact congrArg W.cell? (show a.add (j*9+i)=(a.add (j*9)).add i by unfold Addr.add;by_cases h1:i=0 <;> by_cases h2:j=0 <;> simp [h1,h2,Nat.add_assoc] <;> (split <;> simp_all [Nat.add_assoc]))
    · have e:l[j]? = some (dU l j):=by unfold dU;rw [Int.toNat_natCast,List.getD_eq_getElem?_getD,List.getElem?_eq_getElem hj];rfl
      exact (h2 j _ e).1
end
section
open Go.ChangeShapes Go.WideShapes Go.ChangeAt
variable {H:Type} {enc:TypeId × Value→H} {W:World} {fuel:Nat} {cs:List Value} {x:DataW H × List MemPlace}
theorem apI (h:DataW.trod enc Tryz.prog W 0 (fun _=>true) true fuel 80 cs=some x):∃ (A:Option Addr) (l:List Int) (c:Nat),cs=[.slice A l.length c]∧l.length≤c∧Kd.C (Kd.int .u16) W A l.length l∧∀ z ∈ l,0≤z∧z≤65535:=by
  rcases open_ints Tryz.underlying80 Tryz.underlying79 (by kernel_rfl) h with ⟨hcs,_⟩|⟨a,len,cap,zs,hcs,_,hl,hm,hz,_,hcell,hwz⟩
  · exact ⟨none,[],0,hcs,by decide,⟨rfl,by decide,fun h=>absurd h (by decide)⟩,by simp⟩
  · have hz:zs.length=cap:=by simpa using hz
    obtain ⟨l,e,h1,h2,h3,h4⟩:=tZ.ao3 (k := .u16) (w:=W) (a:=some a) (len:=len) (cap:=cap) (zs:=zs) (.inr ⟨a,rfl,hl,hm,hz,hcell,hwz⟩)
    subst e
    exact ⟨some a,l,cap,hcs,h4,Kd.ahf (d:=(0:Int)) (h1:=fun _=>rfl) h1,fun z hz=>T.ah3 (h3 z hz)⟩
set_option maxRecDepth 100000 in
theorem apR {cs:Array Value} {d:DataW H} {ps:List MemPlace} (h:DataW.Trod enc Tryz.prog W 0 (fun _=>true) true 82 (.agg cs) d ps):∃ (v0 v1 v2 v3:Int) (A:Option Addr) (l:List Int) (c:Nat),cs = #[.int .u16 v0,.int .u16 v1,.int .u16 v2,.int .u16 v3,.slice A l.length c]∧(0≤v0∧v0≤65535)∧(0≤v1∧v1≤65535)∧(0≤v2∧v2≤65535)∧(0≤v3∧v3≤65535)∧Kd.C (Kd.int .u16) W A l.length l∧l.length≤c∧∀ j:Nat,j < l.length→0≤rd l (j:Int)∧rd l (j:Int)≤65535:=by
  obtain ⟨fuel,hf0⟩:=h
  obtain ⟨xs,n,_,_,hl,hlen,hf⟩:=DataW.trod_struct Tryz.underlying82 hf0
  obtain ⟨us,hus⟩:∃ us:List Value,us=cs.toList:=⟨_,rfl⟩
  have hcs:(Value.agg cs).cells.toList=us:=by rw [hus];rfl
  rw [hcs] at hl hf
  have hl5:us.length=5:=hl.trans (by kernel_rfl)
  match us,hl5,hus with
  | [u0,u1,u2,u3,u4],_,hus =>
  match xs,hlen with
  | [y0,y1,y2,y3,y4],_ =>
  have c0:Tryz.prog.cellsOf 79=1:=by kernel_rfl
  have c4:Tryz.prog.cellsOf 80=1:=by kernel_rfl
  have g0:DataW.trod enc Tryz.prog W 0 (fun _=>true) true n 79 (([u0,u1,u2,u3,u4].drop 0).take (Tryz.prog.cellsOf 79))=some y0:=hf 0 _ rfl
  have g1:DataW.trod enc Tryz.prog W 0 (fun _=>true) true n 79 (([u0,u1,u2,u3,u4].drop 1).take (Tryz.prog.cellsOf 79))=some y1:=hf 1 _ rfl
  have g2:DataW.trod enc Tryz.prog W 0 (fun _=>true) true n 79 (([u0,u1,u2,u3,u4].drop 2).take (Tryz.prog.cellsOf 79))=some y2:=hf 2 _ rfl
  have g3:DataW.trod enc Tryz.prog W 0 (fun _=>true) true n 79 (([u0,u1,u2,u3,u4].drop 3).take (Tryz.prog.cellsOf 79))=some y3:=hf 3 _ rfl
  have g4:DataW.trod enc Tryz.prog W 0 (fun _=>true) true n 80 (([u0,u1,u2,u3,u4].drop 4).take (Tryz.prog.cellsOf 80))=some y4:=hf 4 _ rfl
  simp only [c0,c4] at g0 g1 g2 g3 g4
  simp [List.drop,List.take] at g0 g1 g2 g3 g4
  obtain ⟨v0,e0,_,w0⟩:=DataW.trod_int Tryz.underlying79 g0
  obtain ⟨v1,e1,_,w1⟩:=DataW.trod_int Tryz.underlying79 g1
  obtain ⟨v2,e2,_,w2⟩:=DataW.trod_int Tryz.underlying79 g2
  obtain ⟨v3,e3,_,w3⟩:=DataW.trod_int Tryz.underlying79 g3
  obtain ⟨A4,l4,k4,e4,m4,r4,w4⟩:=apI g4
  simp only [List.cons.injEq,and_true] at e0 e1 e2 e3 e4
  subst e0 e1 e2 e3 e4
  refine ⟨v0,v1,v2,v3,A4,l4,k4,?_,T.ah3 w0,T.ah3 w1,T.ah3 w2,T.ah3 w3,r4,m4,fun j hj => ?_⟩
  · cases cs with|mk ls=>exact congrArg Array.mk hus.symm
  · refine w4 _ ?_
    unfold rd
    rw [Int.toNat_natCast,List.getD_eq_getElem?_getD,List.getElem?_eq_getElem hj]
    exact List.getElem_mem _
end
end Go.Proofs.YtpondkggmcmpfaaGreatDoor.QA
