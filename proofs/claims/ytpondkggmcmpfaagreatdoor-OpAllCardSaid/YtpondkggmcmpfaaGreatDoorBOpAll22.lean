/- Joined by wip/tools/bundle.py out of: TU T4. -/
import Derived.Test.YtpondkggmcmpfaaGreatDoorBOpAll1
import Derived.Test.YtpondkggmcmpfaaGreatDoorBOpAll9
import Derived.Test.YtpondkggmcmpfaaGreatDoorBOpAll7
import Derived.Handy
import Derived.Lib.SliceRun
import Derived.Test.YtpondkggmcmpfaaGreatDoorBOpAll0
import Derived.Test.YtpondkggmcmpfaaGreatDoorBOpAll8
import Derived.StillTailTactics
import Derived.Test.YtpondkggmcmpfaaGreatDoorBOpAll10
import Derived.Test.YtpondkggmcmpfaaGreatDoorBOpAll11
import Derived.Test.YtpondkggmcmpfaaGreatDoorBOpAll16
import Derived.Test.YtpondkggmcmpfaaGreatDoorBOpAll17
import Derived.Test.YtpondkggmcmpfaaGreatDoorBOpAll18
import Derived.Test.YtpondkggmcmpfaaGreatDoorBOpAll19
import Derived.Test.YtpondkggmcmpfaaGreatDoorBOpAll20
import Derived.Test.YtpondkggmcmpfaaGreatDoorBOpAll21
import Derived.ProofKit
import Derived.OpenShut
import Derived.ChangeSame
import Derived.LaidMore
import Derived.DataReads
namespace Go.Proofs.YtpondkggmcmpfaaGreatDoor.QA
open Go.RowKit Go.Proofs.YtpondkggmcmpfaaGreatDoorW.PrintWords Go.Proofs.YtpondkggmcmpfaaGreatDoorW.PrintLast Go.Proofs.YtpondkggmcmpfaaGreatDoorW.PrintMore Go.Proofs.YtpondkggmcmpfaaGreatDoor.T
set_option linter.unusedVariables false
set_option linter.unusedSimpArgs false
theorem ak7 (l:List S47) (ch a b:Int):∀ (d i:Nat),rJ l ch a b i d=0→∀ j,i≤j→j < i+d→iV (eY l j) (oK l a b j).1 (oK l a b j).2=0:=by
  intro d
  induction d with
  | zero=>intro i _ j h1 h2;omega
  | succ d ih =>
    intro i h j h1 h2
    rw [rJ] at h
    by_cases c:iV (eY l i) (oK l a b i).1 (oK l a b i).2=0
    · rw [if_pos c] at h
      by_cases f:yJ (oK l a b (i+1)).1 (oK l a b (i+1)).2 ch=true
      · rw [if_pos f] at h
        by_cases e:j=i
        · rw [e];exact c
        · exact ih (i+1) h j (by omega) (by omega)
      · rw [if_neg f] at h;exact absurd h (by decide)
    · rw [if_neg c] at h;exact absurd h c
theorem anU {l:List S47} {a b ch:Int} (h:pG l a b ch=0):l.length≤16∧∀ j,j < l.length→iV (eY l j) (oK l a b j).1 (oK l a b j).2=0:=by
  unfold pG at h
  by_cases c:(16:Int) < (l.length:Int)
  · rw [if_pos c] at h;exact absurd h (by decide)
  rw [if_neg c] at h
  by_cases f:yJ a b ch=true
  · rw [if_pos f] at h
    exact ⟨by omega,fun j hj=>ak7 l ch a b l.length 0 h j (Nat.zero_le _) (by omega)⟩
  · rw [if_neg f] at h;exact absurd h (by decide)
theorem arF (l:List S47) (a b:Int) (n j:Nat) (h:j < n):adI (yI l a b n) (j:Int)=wJ l a b j:=by
  unfold adI yI
  rw [Int.toNat_natCast,List.getD_eq_getElem?_getD,List.getElem?_map,List.getElem?_range h];rfl
theorem anV (l:List S47) (a b:Int) (n j:Nat) (h:j < n):(wM l a b n)[j]? = some (yY l a b j):=by
  unfold wM
  rw [List.getElem?_map,List.getElem?_range h];rfl
theorem arG {w:World} {A:Option Addr} {n:Nat} {ss:List abz} (h:Kd.C aaZ w A n ss) (i:Nat) (h1:i < n) {s:abz} (hs:ss[i]? = some s):∃ ad A1 c1 A2 c2,A=some ad∧w.cell? (ad.add (i*5))=some (.slice A1 s.x.length c1)∧w.cell? ⟨(ad.add (i*5)).block,(ad.add (i*5)).off+1,none⟩=some (.slice A2 s.y.length c2)∧w.cell? ⟨(ad.add (i*5)).block,(ad.add (i*5)).off+2,none⟩=some (.int .i64 s.nx)∧w.cell? ⟨(ad.add (i*5)).block,(ad.add (i*5)).off+3,none⟩=some (.int .i64 s.ny)∧w.cell? ⟨(ad.add (i*5)).block,(ad.add (i*5)).off+4,none⟩=some (.int .i64 s.bd)∧s.x.length≤c1∧Kd.C qX w A1 s.x.length s.x∧s.y.length≤c2∧Kd.C qX w A2 s.y.length s.y:=by
  obtain ⟨ad,c,e,_,hK,hc0⟩:=Kd.aeF h aqK (i:Int) (by omega) (by omega)
  rw [Int.toNat_natCast] at hK hc0
  have es:ss.getD i aqK=s:=by rw [List.getD_eq_getElem?_getD,hs];rfl
  rw [es] at hK
  have hc:∀ j u,c[j]? = some u→w.cell? (ad.add (i*5+j))=some u:=hc0
  obtain ⟨A1,c1,A2,c2,rfl,l1,g1,l2,g2⟩:=amY hK
  exact ⟨ad,A1,c1,A2,c2,e,hc 0 _ rfl,by rw [← iL _ _ 1 (by omega)];exact hc 1 _ rfl,by rw [← iL _ _ 2 (by omega)];exact hc 2 _ rfl,by rw [← iL _ _ 3 (by omega)];exact hc 3 _ rfl,by rw [← iL _ _ 4 (by omega)];exact hc 4 _ rfl,l1,g1,l2,g2⟩
set_option maxHeartbeats 8000000 in
set_option maxRecDepth 100000 in
theorem akR (l:List S47) (A0:Option Addr) (c0:Nat) (a b ch:Int) (w:World) (hG:GL w) (hr:Kd.C k47 w A0 l.length l) (hc:l.length≤c0) (hI:∀ j:Nat,j < l.length→opI (eY l j)) :
    Calls Tryz.prog 3 #[.slice A0 l.length c0,.int .i64 a,.int .i64 b,.int .i64 ch] w fun e w'=>e = .returned (.bool true)∧Below w.heap.size w w':=by
  have LV:=aj.mk (fun w' (hb:Below w.heap.size w w')=>aiC w' (hG.below hb))
  have LT:=aj.mk (fun w' (hb:Below w.heap.size w w')=>akw l A0 c0 20 w' (Kd.bI hr hb) hc)
  have lm:=hr.2.1
  have mixed:Tryz.prog.follows .mixedOrders=true:=by kernel_rfl
  have B0:=aj.mk (Below.refl w.heap.size w)
  by_cases h18:(18:Int) < (l.length:Int)
  · have b18:decide ((18:Int) < (l.length:Int))=true:=decide_eq_true h18
    have apM:decide (18 < l.length)=true:=decide_eq_true (by omega)
    clear hG hr hc hI LT
    go_enter Tryz.func3,Tryz.ntmps3
    go_wp2_with (go_at_call 12;(with_reducible refine (LV.out _ B0.out).mono ?_);rintro e w1 ⟨rfl,hb1⟩;have B0:=aj.mk (ak B0.out hb1);clear hb1)
    go_ret
    exact ⟨rfl,B0.out⟩
  have b18:decide ((18:Int) < (l.length:Int))=false:=decide_eq_false h18
  have apM:decide (18 < l.length)=false:=decide_eq_false (by omega)
  obtain ⟨lb,hlb⟩:∃ x,x=aeU l 20:=⟨_,rfl⟩
  rw [← hlb] at LT
  have guard:lb=false∨(lb=true∧20 < a∧a≤65536)∨(lb=true∧¬ 20 < a∧20 < b∧b≤65536)∨(lb=true∧20 < a∧¬ a≤65536∧20 < b∧b≤65536)∨(lb=true∧(¬ 20 < a∨(20 < a∧¬ a≤65536))∧(¬ 20 < b∨(20 < b∧¬ b≤65536))):=by
    cases lb
    · exact .inl rfl
    · by_cases g1:20 < a <;> by_cases g2:a≤65536 <;> by_cases g3:20 < b <;> by_cases g4:b≤65536 <;> simp [g1,g2,g3,g4]
  rcases guard with rfl|⟨rfl,g1,g2⟩|⟨rfl,g1,g3,g4⟩|⟨rfl,g1,g2,g3,g4⟩|⟨rfl,gW,gH⟩
  rotate_right 1
  · have AL:=aj.mk (fun w' (hb:Below w.heap.size w w')=>asc l A0 c0 a b ch w' (hG.below hb) (Kd.bI hr hb) hc (fun j hj=>⟨hI j hj,by have:=(uV hlb.symm j hj).1;omega,by have:=(uV hlb.symm j hj).2.1;omega⟩))
    have RF:=aj.mk (fun w' (hb:Below w.heap.size w w')=>arE l A0 c0 w' (Kd.bI hr hb) hc (by omega))
    have RA:=aj.mk (fun A c w' (h1:Kd.C aa8 w' A l.length (l.map toO)) (h2:l.length≤c)=>anT l A c a b ch w' h1 h2 (fun j hj=>⟨hI j hj,by have:=(uV hlb.symm j hj).1;omega,by have:=(uV hlb.symm j hj).2.1;omega⟩))
    have TD:=aj.mk (fun (h0:pG l a b ch=0) (j:Nat) (hj:j < l.length)=>arB (hI j hj) (by have:=(uV hlb.symm j hj).1;omega) (by have:=(uV hlb.symm j hj).2.1;omega) ((anU h0).2 j hj))
    clear hG hr hc hI hlb
    unfold al7 at AL
    unfold aeT at RA
    obtain ⟨c,hcc⟩:∃ c,c=pG l a b ch:=⟨_,rfl⟩
    rw [← hcc] at AL RA TD
    have e1:(c != c)=false:=by simp
    obtain ⟨ss,hss⟩:∃ x,x=yI l a b l.length:=⟨_,rfl⟩
    obtain ⟨rs,hrs⟩:∃ x,x=wM l a b l.length:=⟨_,rfl⟩
    rw [← hss] at AL
    rw [← hrs] at RA
    have hsl:ss.length=l.length:=by rw [hss,agm]
    have hrl:rs.length=l.length:=by rw [hrs,afg]
    have HS:=aj.mk hss
    have HRS:=aj.mk hrs
    clear hcc hss hrs
    obtain ⟨n,hn⟩:∃ n,n=l.length:=⟨_,rfl⟩
    rw [← hn] at b18 apM h18 lm AL LT RF RA TD HS HRS hsl hrl ⊢
    have HN:=aj.mk hn
    have HL:=aj.mk (And.intro hsl hrl)
    clear hn hsl hrl
    by_cases hc0:c=0
    rotate_left
    · have bc1:(c == 0)=false:=by simpa using hc0
      simp only [if_neg hc0] at AL RA
      clear TD hc0
      rcases gW with g1|⟨g1,g2⟩ <;> rcases gH with g3|⟨g3,g4⟩
      all_goals (
        go_enter Tryz.func3,Tryz.ntmps3
        go_upto_region 5 with (first
          | (go_at_call 12;(with_reducible refine (LV.out _ B0.out).mono ?_);rintro e w1 ⟨rfl,hb1⟩;have B0:=aj.mk (ak B0.out hb1);clear hb1)
          | (go_at_call 13;(with_reducible refine (LT.out _ B0.out).mono ?_);rintro e w1 ⟨rfl,hb1⟩;have B0:=aj.mk (ak B0.out hb1);clear hb1)
          | (go_at_call 14;(with_reducible refine (AL.out _ B0.out).mono ?_);rintro e w2 ⟨hb1,rfl⟩;have B2:=aj.mk (ak B0.out hb1);clear hb1)
          | (go_at_call 16;(with_reducible refine (RF.out _ B2.out).mono ?_);rintro e w3 ⟨hb1,A3,c3,rfl,h31,h32⟩;have B3:=aj.mk (ak B2.out hb1);have H3:=aj.mk (And.intro h31 h32);clear hb1 h31 h32)
          | (go_at_call 15;(with_reducible refine (RA.out _ _ _ H3.out.2 H3.out.1).mono ?_);rintro e w4 ⟨hb1,rfl⟩;have B4:=aj.mk (ak B3.out hb1);clear hb1))
        go_upto_region 8 with fail
        go_loopg [72] 0 (fun kx s72 wr=>s72 = .int .i64 0∧wr=w4)
        case atStart=>exact ⟨rfl,rfl⟩
        case round =>
          obtain ⟨rfl,rfl⟩:=hrel
          go_wp2
          go_ret
          exact ⟨rfl,B4.out⟩)
    simp only [if_pos hc0] at AL RA
    have TD2:=aj.mk (TD.out hc0)
    subst hc0
    clear TD
    rcases gW with g1|⟨g1,g2⟩ <;> rcases gH with g3|⟨g3,g4⟩
    all_goals (
      go_enter Tryz.func3,Tryz.ntmps3
      go_upto_region 5 with (first
        | (go_at_call 12;(with_reducible refine (LV.out _ B0.out).mono ?_);rintro e w1 ⟨rfl,hb1⟩;have B0:=aj.mk (ak B0.out hb1);clear hb1)
        | (go_at_call 13;(with_reducible refine (LT.out _ B0.out).mono ?_);rintro e w1 ⟨rfl,hb1⟩;have B0:=aj.mk (ak B0.out hb1);clear hb1)
        | (go_at_call 14;(with_reducible refine (AL.out _ B0.out).mono ?_);rintro e w2 ⟨hb1,_,rfl,hv⟩;obtain ⟨A2,c2,hv2,-,g2c⟩:=Kd.sW hv;rw [HL.out.1] at hv2 g2c;subst hv2;have B2:=aj.mk (ak B0.out hb1);have G2:=aj.mk g2c;clear hb1 hv g2c)
        | (go_at_call 16;(with_reducible refine (RF.out _ B2.out).mono ?_);rintro e w3 ⟨hb1,A3,c3,rfl,h31,h32⟩;have B3:=aj.mk (ak B2.out hb1);have H3:=aj.mk (And.intro h31 h32);have G3:=aj.mk (Kd.bI G2.out hb1);clear hb1 h31 h32)
        | (go_at_call 15;(with_reducible refine (RA.out _ _ _ H3.out.2 H3.out.1).mono ?_);rintro e w4 ⟨hb1,_,rfl,hv⟩;obtain ⟨A4,c4,hv2,-,g4c⟩:=Kd.sW hv;rw [HL.out.2] at hv2 g4c;subst hv2;have B4:=aj.mk (ak B3.out hb1);have G4:=aj.mk g4c;have H4:=aj.mk (Kd.bI G3.out hb1);clear hb1 hv g4c))
      clear b18 apM LV LT AL RF RA
      have e2:((n:Int) != (n:Int))=false:=by simp
      have ln:n≤18:=by omega
      go_upto_region 8 with fail
      go_loopg [72] n (fun kx s72 wr=>∃ (i:Nat),s72 = .int .i64 i∧i≤n∧n - i≤kx∧aj (Below w4.heap.size w4 wr))
      case atStart=>exact ⟨0,rfl,by omega,by omega,⟨Below.refl _ _⟩⟩
      case round =>
        obtain ⟨i,rfl,i1,i2,HB⟩:=hrel
        have wi:IntKind.i64.wrap ((i:Int)+1)=(i:Int)+1:=by rw [qY];exact aC (by omega) (by omega)
        by_cases hlt:(i:Int) < (n:Int)
        rotate_left
        · go_wp2
          go_ret
          exact ⟨rfl,ak B4.out HB.out⟩
        have p1:(0≤(i:Int)):=by omega
        have q0:i < n:=by omega
        have qd:decide (i < n)=true:=decide_eq_true q0
        obtain ⟨td1,td2,td3,td4,-,-,-⟩:=TD2.out i q0
        obtain ⟨ad,bx,bz,e0,y0,y1,y2,tx,ty⟩:=asb (Kd.bI H4.out HB.out) (i:Int) p1 hlt
        subst e0
        rw [Int.toNat_natCast] at y0 y1 y2
        rw [HS.out,arF l a b n i q0] at y2 tx ty
        obtain ⟨ad2,A7,c7,A8,c8,e0,x0,x1,x2,x3,x4,l7,g7,l8,g8⟩:=arG (Kd.bI G4.out HB.out) i q0 (by rw [HRS.out];exact anV l a b n i q0)
        subst e0
        have n7:(yY l a b i).x.length=(wJ l a b i).x.lines.length:=List.length_map ..
        have n8:(yY l a b i).y.length=(wJ l a b i).y.lines.length:=List.length_map ..
        rw [n7] at x0 l7 g7
        rw [n8] at x1 l8 g8
        have m1:(wJ l a b i).x.n=(yY l a b i).nx:=td3
        have m2:(wJ l a b i).y.n=(yY l a b i).ny:=td4
        have m3:(wJ l a b i).bd=(yY l a b i).bd:=rfl
        rw [← m1] at x2
        rw [← m2] at x3
        rw [← m3] at x4
        have SM:=aj.mk (fun w' (hb:Below wr.heap.size wr w')=>aks bx bz (wJ l a b i).x (wJ l a b i).y (wJ l a b i).bd A7 c7 A8 c8 w' (tx.below hb) (ty.below hb) td1 td2 (Kd.bI g7 hb) (Kd.bI g8 hb) l7 l8)
        clear td1 td2 td3 td4 tx ty g7 g8 l7 l8 n7 n8 m1 m2 m3
        generalize wJ l a b i=st at SM x0 x1 x2 x3 x4 y2
        obtain ⟨p,hp⟩:∃ p,p=st.x.lines.length:=⟨_,rfl⟩
        obtain ⟨q,hq⟩:∃ q,q=st.y.lines.length:=⟨_,rfl⟩
        obtain ⟨m,hm⟩:∃ p,p=st.x.n:=⟨_,rfl⟩
        obtain ⟨k,hk⟩:∃ p,p=st.y.n:=⟨_,rfl⟩
        obtain ⟨d,hd⟩:∃ p,p=st.bd:=⟨_,rfl⟩
        rw [← hp,← hq,← hm,← hk,← hd] at SM
        rw [← hp] at x0
        rw [← hq] at x1
        rw [← hm] at x2
        rw [← hk] at x3
        rw [← hd] at x4 y2
        clear hp hq hm hk hd
        go_upto_region 10 with fail
        go_still_tail 8,(by kernel_rfl)
        change wpList _ _ _ _ _ wr.drew
        have BD:=aj.mk (dA (Below.refl wr.heap.size wr))
        generalize wr.drew=w2 at BD ⊢
        go_wp2_with (go_at_call 17;(with_reducible refine (SM.out _ BD.out).mono ?_);rintro e w5 ⟨rfl,hb1⟩;have B5:=aj.mk (ak BD.out hb1);clear hb1)
        go_roundg (n - (i+1))
        case measure=>omega
        case rel=>exact ⟨i+1,by simp,by omega,Nat.le_refl _,⟨ak HB.out B5.out⟩⟩)
  all_goals (
    clear hG hr hc hI hlb
    go_enter Tryz.func3,Tryz.ntmps3
    go_wp2_with (first
      | (go_at_call 12;(with_reducible refine (LV.out _ B0.out).mono ?_);rintro e w1 ⟨rfl,hb1⟩;have B0:=aj.mk (ak B0.out hb1);clear hb1)
      | (go_at_call 13;(with_reducible refine (LT.out _ B0.out).mono ?_);rintro e w1 ⟨rfl,hb1⟩;have B0:=aj.mk (ak B0.out hb1);clear hb1))
    go_ret
    exact ⟨rfl,B0.out⟩)
end Go.Proofs.YtpondkggmcmpfaaGreatDoor.QA
namespace Go.Proofs.YtpondkggmcmpfaaGreatDoor.QA
open Go.RowKit Go.Proofs.YtpondkggmcmpfaaGreatDoorW.PrintWords Go.Proofs.YtpondkggmcmpfaaGreatDoorW.PrintLast Go.Proofs.YtpondkggmcmpfaaGreatDoorW.PrintMore Go.Proofs.YtpondkggmcmpfaaGreatDoor.T
set_option linter.unusedVariables false
set_option linter.unusedSimpArgs false
section
open Go.ChangeShapes Go.WideShapes Go.ChangeAt
variable {H:Type} {enc:TypeId × Value→H} {W:World} {fuel:Nat} {cs:List Value} {x:DataW H × List MemPlace}
theorem ail (h:DataW.trod enc Tryz.prog W 0 (fun _=>true) true fuel 44 cs=some x):∃ (A:Option Addr) (l:List Int) (c:Nat),cs=[.slice A l.length c]∧l.length≤c∧Kd.C (Kd.int .i64) W A l.length l∧∀ z ∈ l,I64 z:=by
  rcases open_ints Tryz.underlying44 Tryz.underlying2 (by kernel_rfl) h with ⟨hcs,_⟩|⟨a,len,cap,zs,hcs,_,hl,hm,hz,_,hcell,hwz⟩
  · exact ⟨none,[],0,hcs,by decide,ajM W,by simp⟩
  · have hz:zs.length=cap:=by simpa using hz
    obtain ⟨l,e,h1,h2,h3,h4⟩:=uo.arS (k := .i64) (w:=W) (a:=some a) (len:=len) (cap:=cap) (zs:=zs) (.inr ⟨a,rfl,hl,hm,hz,hcell,hwz⟩)
    subst e
    exact ⟨some a,l,cap,hcs,h4,Kd.alJ (d:=(0:Int)) (h1:=fun _=>rfl) h1,fun z hz=>T.wf64 (h3 z hz)⟩
set_option maxRecDepth 100000 in
theorem arH (h:DataW.trod enc Tryz.prog W 0 (fun _=>true) true fuel 47 cs=some x):∃ o:S47,k47.K W o cs∧opI o:=by
  obtain ⟨xs,n,_,rfl,hl,hlen,hf⟩:=DataW.trod_struct Tryz.underlying47 h
  have hl9:cs.length=9:=hl.trans (by kernel_rfl)
  match cs,hl9 with
  | [u0,u1,u2,u3,u4,u5,u6,u7,u8],_ =>
  match xs,hlen with
  | [y0,y1,y2,y3,y4,y5,y6,y7,y8],_ =>
  have c0:Tryz.prog.cellsOf 43=1:=by kernel_rfl
  have c1:Tryz.prog.cellsOf 36=1:=by kernel_rfl
  have c2:Tryz.prog.cellsOf 2=1:=by kernel_rfl
  have c3:Tryz.prog.cellsOf 3=1:=by kernel_rfl
  have c4:Tryz.prog.cellsOf 44=1:=by kernel_rfl
  have c6:Tryz.prog.cellsOf 45=1:=by kernel_rfl
  have g0:DataW.trod enc Tryz.prog W 0 (fun _=>true) true n 43 (([u0,u1,u2,u3,u4,u5,u6,u7,u8].drop 0).take (Tryz.prog.cellsOf 43))=some y0:=hf 0 _ rfl
  have g1:DataW.trod enc Tryz.prog W 0 (fun _=>true) true n 36 (([u0,u1,u2,u3,u4,u5,u6,u7,u8].drop 1).take (Tryz.prog.cellsOf 36))=some y1:=hf 1 _ rfl
  have g2:DataW.trod enc Tryz.prog W 0 (fun _=>true) true n 2 (([u0,u1,u2,u3,u4,u5,u6,u7,u8].drop 2).take (Tryz.prog.cellsOf 2))=some y2:=hf 2 _ rfl
  have g3:DataW.trod enc Tryz.prog W 0 (fun _=>true) true n 3 (([u0,u1,u2,u3,u4,u5,u6,u7,u8].drop 3).take (Tryz.prog.cellsOf 3))=some y3:=hf 3 _ rfl
  have g4:DataW.trod enc Tryz.prog W 0 (fun _=>true) true n 44 (([u0,u1,u2,u3,u4,u5,u6,u7,u8].drop 4).take (Tryz.prog.cellsOf 44))=some y4:=hf 4 _ rfl
  have g5:DataW.trod enc Tryz.prog W 0 (fun _=>true) true n 44 (([u0,u1,u2,u3,u4,u5,u6,u7,u8].drop 5).take (Tryz.prog.cellsOf 44))=some y5:=hf 5 _ rfl
  have g6:DataW.trod enc Tryz.prog W 0 (fun _=>true) true n 45 (([u0,u1,u2,u3,u4,u5,u6,u7,u8].drop 6).take (Tryz.prog.cellsOf 45))=some y6:=hf 6 _ rfl
  have g7:DataW.trod enc Tryz.prog W 0 (fun _=>true) true n 3 (([u0,u1,u2,u3,u4,u5,u6,u7,u8].drop 7).take (Tryz.prog.cellsOf 3))=some y7:=hf 7 _ rfl
  have g8:DataW.trod enc Tryz.prog W 0 (fun _=>true) true n 3 (([u0,u1,u2,u3,u4,u5,u6,u7,u8].drop 8).take (Tryz.prog.cellsOf 3))=some y8:=hf 8 _ rfl
  simp only [c0,c1,c2,c3,c4,c6] at g0 g1 g2 g3 g4 g5 g6 g7 g8
  simp [List.drop,List.take] at g0 g1 g2 g3 g4 g5 g6 g7 g8
  obtain ⟨v0,e0,_,w0⟩:=DataW.trod_int Tryz.underlying43 g0
  obtain ⟨v1,e1,_,w1⟩:=DataW.trod_int Tryz.underlying36 g1
  obtain ⟨v2,e2,_,w2⟩:=DataW.trod_int Tryz.underlying2 g2
  obtain ⟨v3,e3,_,w3⟩:=DataW.trod_int Tryz.underlying3 g3
  obtain ⟨A4,l4,k4,e4,m4,r4,w4⟩:=ail g4
  obtain ⟨A5,l5,k5,e5,m5,r5,w5⟩:=ail g5
  obtain ⟨v6,e6,_,w6⟩:=DataW.trod_int Tryz.underlying45 g6
  obtain ⟨v7,e7,_,w7⟩:=DataW.trod_int Tryz.underlying3 g7
  obtain ⟨v8,e8,_,w8⟩:=DataW.trod_int Tryz.underlying3 g8
  simp only [List.cons.injEq,and_true] at e0 e1 e2 e3 e4 e5 e6 e7 e8
  subst e0 e1 e2 e3 e4 e5 e6 e7 e8
  exact ⟨⟨v0,v1,v2,v3,l4,l5,v6,v7,v8⟩,arX W ⟨v0,v1,v2,v3,l4,l5,v6,v7,v8⟩ m4 r4 m5 r5,T.wf64 w0,T.wf64 w1,T.wf64 w2,T.wf64 w3,w4,w5,T.wf64 w6,T.wf64 w7,T.wf64 w8⟩
theorem an2 {A:Option Addr} {len cap:Nat} {d:DataW H} {ps:List MemPlace} (h:DataW.Trod enc Tryz.prog W 0 (fun _=>true) true 22 (.slice A len cap) d ps):∃ l:List S47,len=l.length∧Kd.C k47 W A l.length l∧l.length≤cap∧∀ j:Nat,j < l.length→opI (eY l j):=by
  obtain ⟨fuel,hf⟩:=h
  rcases DataW.trod_slice Tryz.underlying22 hf with ⟨hcs,_⟩|⟨a,len',cap',elems,rest,n,_,hcs,_,_,hl,hm,hlen,hel,_⟩
  · simp [Value.cells] at hcs
    obtain ⟨rfl,rfl,rfl⟩:=hcs
    exact ⟨[],rfl,⟨rfl,by decide,fun h=>absurd h (by decide)⟩,by decide,fun j hj=>absurd hj (by simp)⟩
  · simp [Value.cells] at hcs
    obtain ⟨rfl,rfl,rfl⟩:=hcs
    have c9:Tryz.prog.cellsOf 47=9:=by kernel_rfl
    rw [c9] at hel
    have each:∀ i,i < len→∃ o c,k47.K W o c∧opI o∧c.length=9∧∀ j,j < 9→W.cell? ((a.add (i*9)).add j)=c[j]? := by
      intro i hi
      have h1:=hel i hi
      rw [List.getElem?_eq_getElem (by omega)] at h1
      obtain ⟨c,hc,ht⟩:=Option.bind_eq_some_iff.1 h1
      obtain ⟨_,hc1,hc2⟩:=World.cells?_some hc
      obtain ⟨o,ho,hi2⟩:=arH ht
      exact ⟨o,c,ho,hi2,hc1,hc2⟩
    have all:∀ m,m≤len→∃ l:List S47,l.length=m∧∀ i o,l[i]? = some o→opI o∧∃ c,c.length=9∧k47.K W o c∧∀ j,j < 9→W.cell? ((a.add (i*9)).add j)=c[j]? := by
      intro m
      induction m with
      | zero=>intro _;exact ⟨[],rfl,by simp⟩
      | succ m ih =>
        intro hm2
        obtain ⟨l,h1,h2⟩:=ih (by omega)
        obtain ⟨o,c,ho,hi2,hc1,hc2⟩:=each m (by omega)
        refine ⟨l ++ [o],by simp [h1],fun i o' hi3 => ?_⟩
        by_cases hi4:i < l.length
        · rw [List.getElem?_append_left hi4] at hi3
          exact h2 i o' hi3
        · have:i=m:=by
            have:=(List.getElem?_eq_some_iff.1 hi3).1
            simp at this;omega
          subst this
          rw [← h1,List.getElem?_append_right (Nat.le_refl _),Nat.sub_self] at hi3
          simp at hi3
          subst hi3
          exact ⟨hi2,c,hc1,ho,hc2⟩
    obtain ⟨l,h1,h2⟩:=all len (Nat.le_refl _)
    subst h1
    refine ⟨l,rfl,⟨rfl,by unfold maxLen at hm;omega,fun _=>⟨a,rfl,fun j p hp => ?_⟩⟩,hl,fun j hj => ?_⟩
    · obtain ⟨_,c,h3,h4,h5⟩:=h2 j p hp
      refine ⟨c,h3,h4,fun i u hu => ?_⟩
      have hi:i < 9:=by rw [← h3];exact (List.getElem?_eq_some_iff.1 hu).1
      have:=h5 i hi
      rw [hu] at this
      rw [← this]
      exact congrArg W.cell? (show a.add (j*9+i)=(a.add (j*9)).add i by unfold Addr.add;by_cases h1:i=0 <;> by_cases h2:j=0 <;> simp [h1,h2,Nat.add_assoc] <;> (split <;> simp_all [Nat.add_assoc]))
    · have e:l[j]? = some (eY l j):=by unfold eY;rw [Int.toNat_natCast,List.getD_eq_getElem?_getD,List.getElem?_eq_getElem hj];rfl
      exact (h2 j _ e).1
end
end Go.Proofs.YtpondkggmcmpfaaGreatDoor.QA
