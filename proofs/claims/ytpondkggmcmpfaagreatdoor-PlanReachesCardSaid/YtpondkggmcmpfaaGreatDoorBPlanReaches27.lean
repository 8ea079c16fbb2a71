/- Joined by wip/tools/bundle.py out of: TM4 TLm. -/
import Derived.Test.YtpondkggmcmpfaaGreatDoorBPlanReaches1
import Derived.Test.YtpondkggmcmpfaaGreatDoorBPlanReaches8
import Derived.Test.YtpondkggmcmpfaaGreatDoorBPlanReaches14
import Derived.Handy
import Derived.Lib.SliceRun
import Derived.Test.YtpondkggmcmpfaaGreatDoorBPlanReaches0
import Derived.Test.YtpondkggmcmpfaaGreatDoorBPlanReaches10
import Derived.Test.YtpondkggmcmpfaaGreatDoorBPlanReaches11
import Derived.Test.YtpondkggmcmpfaaGreatDoorBPlanReaches15
import Derived.Test.YtpondkggmcmpfaaGreatDoorBPlanReaches16
import Derived.Test.YtpondkggmcmpfaaGreatDoorBPlanReaches17
import Derived.Test.YtpondkggmcmpfaaGreatDoorBPlanReaches18
import Derived.Test.YtpondkggmcmpfaaGreatDoorBPlanReaches19
import Derived.Test.YtpondkggmcmpfaaGreatDoorBPlanReaches20
import Derived.Test.YtpondkggmcmpfaaGreatDoorBPlanReaches21
import Derived.Test.YtpondkggmcmpfaaGreatDoorBPlanReaches22
import Derived.Test.YtpondkggmcmpfaaGreatDoorBPlanReaches23
import Derived.Test.YtpondkggmcmpfaaGreatDoorBPlanReaches24
import Derived.Test.YtpondkggmcmpfaaGreatDoorBPlanReaches25
import Derived.Test.YtpondkggmcmpfaaGreatDoorBPlanReaches26
import Derived.ProofKit
import Derived.OpenShut
import Derived.ChangeSame
import Derived.LaidMore
import Derived.DataReads
namespace Go.Proofs.YtpondkggmcmpfaaGreatDoor.QA
open Go.RowKit Go.Proofs.YtpondkggmcmpfaaGreatDoorW.PrintWords Go.Proofs.YtpondkggmcmpfaaGreatDoorW.PrintLast Go.Proofs.YtpondkggmcmpfaaGreatDoorW.PrintMore Go.Proofs.YtpondkggmcmpfaaGreatDoor.T
set_option linter.unusedVariables false
set_option linter.unusedSimpArgs false
theorem aks (w:World) (v0 v1:Value):∃ W1 g,W1=w.alloc (.cells #[v0,v1] 71)∧g=w.heap.size∧W1.heap[g]? = some (.cells #[v0,v1] 71 (0,0))∧Below w.heap.size w W1:=⟨_,_,rfl,rfl,heap_alloc_new w _,aT (Below.refl _ _) _⟩
theorem akt:∀ (l:List S71) (m:Int),m≤l.foldl (fun m x=>mx m (x.f1.length:Int)) m∧∀ x ∈ l,(x.f1.length:Int)≤l.foldl (fun m x=>mx m (x.f1.length:Int)) m
  | [],m=>⟨Int.le_refl _,fun x hx=>by simp at hx⟩
  | y :: r,m=>by
    have ih:=akt r (mx m (y.f1.length:Int))
    have h1:m≤mx m (y.f1.length:Int)∧(y.f1.length:Int)≤mx m (y.f1.length:Int):=by unfold mx;split <;> omega
    rw [List.foldl_cons]
    refine ⟨by omega,fun x hx => ?_⟩
    rcases List.mem_cons.1 hx with rfl|hx
    · omega
    · exact ih.2 x hx
theorem arv {t:Tab} (T:Told t) {j:Int} (j0:0≤j) (j1:j < t.lines.length):((eY t.lines j).f1.length:Int)≤t.most:=by
  rw [T.m]
  obtain ⟨i,rfl⟩:∃ i:Nat,j=i:=⟨j.toNat,by omega⟩
  exact (akt t.lines 0).2 _ (List.mem_of_getElem? (ako t.lines (o:=i) (by omega)))
theorem agR {t:Tab} (T:Told t) {a b j:Int} (h0:0≤a) (h1:b≤t.lines.length) (j0:a≤j) (j1:j < b):(bK t a b).1≤(eY t.lines j).f0∧(eY t.lines j).f0+(eY t.lines j).f1.length≤(bK t a b).1+(bK t a b).2 ∧ -1099511627776≤(bK t a b).1∧(bK t a b).1≤1099513724928∧0≤(bK t a b).2∧(bK t a b).2≤2199025352704∧(eY t.lines j).f1.length≤2097152∧((eY t.lines j).f1.length:Int)≤t.most:=by
  obtain ⟨a1,a2,a3,a4,a5,a6⟩:=anP T h0 h1 j0 j1
  obtain ⟨o,rfl⟩:∃ o:Nat,j=o:=⟨j.toNat,by omega⟩
  exact ⟨a1,a2,a3,a4,a5,a6,(T.l o (by omega)).1.2.1,arv T (by omega) (by omega)⟩
theorem akZ (x:Int):wrap64 (x*max 0 (-1))=0:=by
  have:max (0:Int) (-1)=0:=by decide
  rw [this,Int.mul_zero];unfold wrap64;decide
theorem arw (w:World) (v0 v1 v2 u0 u1 u2 u3 u4:Value):∃ W5 g,W5=(w.alloc (.cells #[v0,v1,v2] 38)).alloc (.cells #[u0,u1,u2,u3,u4] 41)∧g=w.heap.size∧W5.heap[g]? = some (.cells #[v0,v1,v2] 38 (0,0))∧W5.heap[g+1]? = some (.cells #[u0,u1,u2,u3,u4] 41 (0,0))∧Below w.heap.size w W5:=⟨_,_,rfl,rfl,(by rw [qZ _ _ _ (by simp)];exact heap_alloc_new w _),xA _ _ _ (by simp),aT (aT (Below.refl _ _) _) _⟩
set_option maxHeartbeats 8000000 in
set_option maxRecDepth 100000 in
theorem aeX (o:S47) (A4:Option Addr) (c4:Nat) (A5:Option Addr) (c5:Nat) (wd ht tw th ch:Int) (hw:0≤wd∧wd≤255) (hh:0≤ht∧ht≤255) (htw:0≤tw∧tw≤255) (hth:0≤th∧th≤255) (w:World) (hG:GL w) (hI:opI o) (hx:Kd.C (Kd.int .i64) w A4 o.f4.length o.f4) (lx:o.f4.length≤c4) (hy:Kd.C (Kd.int .i64) w A5 o.f5.length o.f5) (ly:o.f5.length≤c5) :
    Calls Tryz.prog 6 #[opV o.f0 o.f1 o.f2 o.f3 A4 o.f4.length c4 A5 o.f5.length c5 o.f6 o.f7 o.f8,.int .u8 wd,.int .u8 ht,.int .u8 tw,.int .u8 th,.int .i64 ch] w fun e w'=>e = .returned (.bool true)∧Below w.heap.size w w':=by
  have LV:=aj.mk (fun w' (hb:Below w.heap.size w w')=>aiH w' (hG.below hb))
  have SG:=aj.mk (fun w' (hb:Below w.heap.size w w')=>akp o A4 c4 A5 c5 wd ht hw hh w' (hG.below hb) hI (Kd.bW hx hb) lx (Kd.bW hy hb) ly)
  have PL:=aj.mk (avS (o:=o) hw.1 hh.1 hI)
  unfold amT amU at SG
  obtain ⟨tx,htx⟩:∃ x,x=nI o (1+wd % 20):=⟨_,rfl⟩
  obtain ⟨ty,hty⟩:∃ x,x=nJ o (1+ht % 20):=⟨_,rfl⟩
  rw [← htx,← hty] at SG PL
  obtain ⟨C,hC⟩:∃ C,C=(yt [o] 20=true∧jc o (1+wd % 20) (1+ht % 20)=0):=⟨_,rfl⟩
  obtain ⟨l1,hl1⟩:∃ l,l=tx.lines.map toR:=⟨_,rfl⟩
  obtain ⟨l2,hl2⟩:∃ l,l=ty.lines.map toR:=⟨_,rfl⟩
  obtain ⟨p,hp⟩:∃ x,x=o.f4.length:=⟨_,rfl⟩
  obtain ⟨q,hq⟩:∃ x,x=o.f5.length:=⟨_,rfl⟩
  rw [← hl1,← hl2,← hp,← hq] at SG
  rw [← hp,← hq]
  have hCd:C∨¬ C:=Classical.em _
  rw [← hC] at PL
  have SG2:aj ((C→∀ w',Below w.heap.size w w'→_)∧(¬ C→∀ w',Below w.heap.size w w'→_)):=⟨fun h w' hb=>by have:=SG.out w' hb;rw [if_pos (by rw [← hC];exact h)] at this;exact this,fun h w' hb=>by have:=SG.out w' hb;rw [if_neg (by rw [← hC];exact h)] at this;exact this⟩
  have L12:=aj.mk (And.intro hl1 hl2)
  clear SG hG hI hx lx hy ly htx hty hC hl1 hl2 hp hq
  obtain ⟨k,b,s,r,x4,x5,f,ow,oh⟩:=o
  simp only at *
  obtain ⟨W1,g,e1,hg,h1,hb1⟩:=asG w (.int .i64 k) (.int .i64 b) (.int .i64 s) (.int .i64 r) (.slice A4 p c4) (.slice A5 q c5) (.int .i64 f) (.int .i64 ow) (.int .i64 oh)
  have E1:=aj.mk e1
  have EG:=aj.mk hg
  have H1:=aj.mk h1
  have BX:=aj.mk hb1
  clear e1 hg h1 hb1
  have mixed:Tryz.prog.follows .mixedOrders=true:=by kernel_rfl
  unfold opV at *
  rcases hCd with hC|hC
  rotate_left
  · have SG:=aj.mk (SG2.out.2 hC)
    clear SG2 PL hC
    go_enter Tryz.func6,Tryz.ntmps6
    go_upto_region 1 with fail
    rw [← EG.out,← E1.out]
    go_upto_region 3 with (go_at_call 18;(with_reducible refine (LV.out _ BX.out).mono ?_);rintro e w2 ⟨rfl,hb1⟩;have B2:=aj.mk (ak BX.out hb1);have H2:=aj.mk (ay H1.out hb1);clear hb1)
    obtain ⟨z0,z1,z2,z3,z4,z5,z6,z7,z8⟩:=cells9 H2.out
    go_wp2_with (go_at_call 19;(with_reducible refine (SG.out _ B2.out).mono ?_);rintro e w3 ⟨hb1,rfl⟩;have B3:=aj.mk (ak B2.out hb1);clear hb1)
    go_ret
    exact ⟨rfl,aT (aT B3.out _) _⟩
  have SG:=aj.mk (SG2.out.1 hC)
  have PW:=PL.out hC
  clear SG2 PL hC
  have PB:=aj.mk (PW.B (a:=1+tw % 24) (b:=1+th % 24) (by omega) (by omega) (by omega) (by omega))
  obtain ⟨n,hn,n4⟩:=PW.n (a:=1+tw % 24) (b:=1+th % 24) (by omega) (by omega)
  have HNN:=aj.mk hn
  have HNB:=aj.mk PW
  have ha:=aj.mk (show 1≤1+tw % 24∧1+tw % 24≤4096 by omega)
  have hb:=aj.mk (show 1≤1+th % 24∧1+th % 24≤4096 by omega)
  clear hn PW
  go_enter Tryz.func6,Tryz.ntmps6
  go_upto_region 1 with fail
  rw [← EG.out,← E1.out]
  go_upto_region 3 with (go_at_call 18;(with_reducible refine (LV.out _ BX.out).mono ?_);rintro e w2 ⟨rfl,hb1⟩;have B2:=aj.mk (ak BX.out hb1);have H2:=aj.mk (ay H1.out hb1);clear hb1)
  obtain ⟨z0,z1,z2,z3,z4,z5,z6,z7,z8⟩:=cells9 H2.out
  go_upto_region 4 with (go_at_call 19;(with_reducible refine (SG.out _ B2.out).mono ?_);rintro e w3 ⟨hb1,bx,bz,A1,k1,A2,k2,rfl,tx3,ty3,m1,g1,m2,g2⟩;have B3:=aj.mk (ak B2.out hb1);have X3:=aj.mk tx3;have Y3:=aj.mk ty3;have M3:=aj.mk (And.intro m1 (And.intro g1 (And.intro m2 g2)));clear hb1 tx3 ty3 m1 g1 m2 g2)
  clear z0 z1 z2 z3 z4 z5 z6 z7 z8
  obtain ⟨W5,gs,e5,hgs,h5,h6,hb5⟩:=arw w3 (.pointer (some ⟨bx,0,none⟩)) (.pointer (some ⟨bz,0,none⟩)) (.int .i64 b) (.slice A1 l1.length k1) (.slice A2 l2.length k2) (.int .i64 (1+wd % 20)) (.int .i64 (1+ht % 20)) (.int .i64 b)
  rw [← hgs,← e5]
  have B5:=aj.mk (ak B3.out hb5)
  have X5:=aj.mk (X3.out.below hb5)
  have Y5:=aj.mk (Y3.out.below hb5)
  have S5:=aj.mk h5
  have R5:=aj.mk h6
  have M5:=aj.mk (And.intro M3.out.1 (And.intro (Kd.bW M3.out.2.1 hb5) (And.intro M3.out.2.2.1 (Kd.bW M3.out.2.2.2 hb5))))
  clear e5 hgs h5 h6 hb5 X3 Y3 B3 H2 B2 LV SG M3
  obtain ⟨s0,s1,s2⟩:=cells3 S5.out
  go_upto_region 9 with (go_at_call 20;(with_reducible refine (anL bx bz b (1+tw % 24) (1+th % 24) W5 ha.out hb.out).mono ?_);rintro e w6 ⟨hb1,bp,rfl,hp4⟩;have B6:=aj.mk (ak B5.out hb1);have X6:=aj.mk (X5.out.below hb1);have Y6:=aj.mk (Y5.out.below hb1);have S6:=aj.mk (ay S5.out hb1);have R6:=aj.mk (ay R5.out hb1);have M6:=aj.mk (And.intro M5.out.1 (And.intro (Kd.bW M5.out.2.1 hb1) (And.intro M5.out.2.2.1 (Kd.bW M5.out.2.2.2 hb1))));have HP:=aj.mk (show rO w6 bp bx bz b (1+tw % 24) (1+th % 24) tx ty from ⟨hp4,X5.out.below hb1,Y5.out.below hb1⟩);clear hb1 hp4)
  clear s0 s1 s2 B5 X5 Y5 S5 R5 M5
  go_wp2_with (go_at_call 21;(with_reducible refine (ahN bp bx bz b (1+tw % 24) (1+th % 24) tx ty n w6 HP.out PB.out HNN.out (by omega)).mono ?_);rintro e w7 ⟨hb1,A,c,rfl,hc,hC⟩;have B7:=aj.mk (ak B6.out hb1);have X7:=aj.mk (X6.out.below hb1);have Y7:=aj.mk (Y6.out.below hb1);have S7:=aj.mk (ay S6.out hb1);have HP7:=aj.mk (HP.out.below hb1);have HC:=aj.mk hC;clear hb1 hC)
  clear B6 X6 Y6 S6 HP R6 M6
  obtain ⟨a,hav⟩:∃ a,a=1+tw % 24:=⟨_,rfl⟩
  obtain ⟨bb,hbv⟩:∃ a,a=1+th % 24:=⟨_,rfl⟩
  rw [← hav,← hbv] at HNN PB HC HP7
  have HAV:=aj.mk (And.intro hav hbv)
  have a1:1≤a∧a≤24:=by omega
  have b1:1≤bb∧bb≤24:=by omega
  clear hav hbv
  obtain ⟨nx,hnx⟩:∃ v:Int,v=tx.lines.length:=⟨_,rfl⟩
  obtain ⟨ny,hny⟩:∃ v:Int,v=ty.lines.length:=⟨_,rfl⟩
  have N1:1≤nx∧nx≤20:=by have:=HNB.out.x1;have:=HNB.out.x2;omega
  have N2:1≤ny∧ny≤20:=by have:=HNB.out.y1;have:=HNB.out.y2;omega
  have HNX:=aj.mk hnx
  have HNY:=aj.mk hny
  have LX:=aj.mk (fun (v:Int) w' (hb:Below w7.heap.size w7 w') (v0:0≤v) (v1:v < nx)=>aeI bx tx v w' (X7.out.below hb) v0 (by rw [← hnx];exact v1) (by
    obtain ⟨o,rfl⟩:∃ o:Nat,v=o:=⟨v.toNat,by omega⟩
    exact (HNB.out.x.l o (by omega)).1.2.1))
  have LY:=aj.mk (fun (v:Int) w' (hb:Below w7.heap.size w7 w') (v0:0≤v) (v1:v < ny)=>aeI bz ty v w' (Y7.out.below hb) v0 (by rw [← hny];exact v1) (by
    obtain ⟨o,rfl⟩:∃ o:Nat,v=o:=⟨v.toNat,by omega⟩
    exact (HNB.out.y.l o (by omega)).1.2.1))
  clear hnx hny
  go_loopg [59] n (fun kx s59 wr=>∃ (i:Nat),s59 = .int .i64 i∧i≤n∧n - i≤kx∧aj (Below w7.heap.size w7 wr))
  case atStart=>exact ⟨0,rfl,by omega,by omega,⟨Below.refl _ _⟩⟩
  case round =>
    obtain ⟨i,rfl,i1,i2,HB⟩:=hrel
    have wi:IntKind.i64.wrap ((i:Int)+1)=(i:Int)+1:=by rw [kV];exact aC (by omega) (by omega)
    have S8:=aj.mk (ay S7.out HB.out)
    by_cases hlt:(i:Int) < (n:Int)
    rotate_left
    · have him:i=n:=by omega
      subst him
      clear hlt i1 i2 wi
      obtain ⟨s0,s1,s2⟩:=cells3 S8.out
      obtain ⟨ea,eb⟩:=HAV.out
      subst ea
      subst eb
      obtain ⟨cc,hcc⟩:∃ v,v=min (max 0 ch) 3:=⟨_,rfl⟩
      have hc0:max 0 cc=cc:=by rw [hcc];omega
      obtain ⟨mo,hmo⟩:∃ v,v=ty.most:=⟨_,rfl⟩
      obtain ⟨v,hv⟩:∃ v,wrap64 (wrap64 (mo*min (1+tw % 24) nx)*cc)=v:=⟨_,rfl⟩
      have SC:=aj.mk (fun n=>(adv bp bx bz b (1+tw % 24) (1+th % 24) tx ty cc (wr.drewN n) (HP7.out.below (aI HB.out n))).mono (fun e w' h=>(show e = .returned (.int .i64 v)∧dw (wr.drewN n) w' from ⟨by rw [h.1,hc0,← HNX.out,← hmo,hv],h.2⟩)))
      have SN:=aj.mk (fun n=>(adv bp bx bz b (1+tw % 24) (1+th % 24) tx ty (-1) (wr.drewN n) (HP7.out.below (aI HB.out n))).mono (fun e w' h=>(show e = .returned (.int .i64 0)∧dw (wr.drewN n) w' from ⟨by rw [h.1,akZ],h.2⟩)))
      have TX8:=aj.mk (fun n=>pF bx tx (wr.drewN n) (X7.out.below (aI HB.out n)))
      have MY8:=aj.mk (fun n=>acQ bz ty (wr.drewN n) (Y7.out.below (aI HB.out n)))
      rw [← HNX.out] at TX8
      rw [← hmo] at MY8
      have v1:(v == v)=true:=by simp
      clear hc0 hmo
      go_upto_region 28 with fail
      rw [← hcc]
      clear hcc
      go_quiet (first
        | (go_at_call 30;with_reducible exact uY (SC.out _))
        | (go_at_call 30;with_reducible exact uY (SN.out _))
        | (go_at_call 22;exact Calls.quiet_of_same (TX8.out _))
        | (go_at_call 23;exact Calls.quiet_of_same (MY8.out _)))
      go_wp2
      go_ret
      exact ⟨rfl,ak B7.out (aI HB.out nq)⟩
    have p1:(0≤(i:Int)):=by omega
    have q0:i < n:=by omega
    have xb:=afN (i:=(i:Int)) PB.out
    have yb:=afO (i:=(i:Int)) PB.out (by omega) (by rw [← HNN.out];omega)
    rw [← HNX.out] at xb
    rw [← HNY.out] at yb
    obtain ⟨ad,e0,y0,y1,y2,y3,y4,y5,y6,y7,y8,y9⟩:=arQ (Kd.bW HC.out HB.out) (i:Int) p1 hlt
    subst e0
    rw [Int.toNat_natCast,apD _ _ _ _ q0] at y0 y1 y2 y3 y4 y5 y6 y7 y8 y9
    obtain ⟨X,hX⟩:∃ v,v=o7 tx a i:=⟨_,rfl⟩
    obtain ⟨Y,hY⟩:∃ v,v=pX tx a bb i:=⟨_,rfl⟩
    obtain ⟨Wd,hWd⟩:∃ v,v=outW tx a i:=⟨_,rfl⟩
    obtain ⟨Ht,hHt⟩:∃ v,v=wG tx ty a bb i:=⟨_,rfl⟩
    rw [← hX] at xb
    rw [← hY] at yb
    have gW:1≤Wd∧X+Wd≤nx∧Wd≤24:=by rw [hWd,outW,← hX,← HNX.out];omega
    have gH:1≤Ht∧Y+Ht≤ny∧Ht≤24:=by rw [hHt,wG,← hY,← HNY.out];omega
    have CXL:=aj.mk (fun v (v0:X≤v) (v1:v < X+Wd)=>agR HNB.out.x (a:=X) (b:=X+Wd) (j:=v) (by omega) (by rw [← HNX.out];omega) v0 v1)
    have CYL:=aj.mk (fun v (v0:Y≤v) (v1:v < Y+Ht)=>agR HNB.out.y (a:=Y) (b:=Y+Ht) (j:=v) (by omega) (by rw [← HNY.out];omega) v0 v1)
    unfold agQ at y0 y1 y2 y3 y4 y5 y6 y7 y8 y9
    simp only at y0 y1 y2 y3 y4 y5 y6 y7 y8 y9
    rw [← hX,← hWd] at y5 y7
    rw [← hY,← hHt] at y6 y8
    rw [← hX] at y1
    rw [← hY] at y2
    rw [← hWd] at y3
    rw [← hHt] at y4
    obtain ⟨r1,h1⟩:∃ v,v=(bK tx X (X+Wd)).1:=⟨_,rfl⟩
    obtain ⟨r3,h3⟩:∃ v,v=(bK tx X (X+Wd)).2:=⟨_,rfl⟩
    obtain ⟨r2,h2⟩:∃ v,v=(bK ty Y (Y+Ht)).1:=⟨_,rfl⟩
    obtain ⟨r4,h4⟩:∃ v,v=(bK ty Y (Y+Ht)).2:=⟨_,rfl⟩
    obtain ⟨mo,hmo⟩:∃ v,v=ty.most:=⟨_,rfl⟩
    rw [← h1,← h3] at CXL
    rw [← h2,← h4,← hmo] at CYL
    rw [← h1] at y5
    rw [← h3] at y7
    rw [← h2] at y6
    rw [← h4] at y8
    rw [← hmo] at y9
    clear hX hY hWd hHt h1 h2 h3 h4 hmo
    go_upto_region 12 with fail
    obtain ⟨W8,gt,e8,hgt,h8,hb8⟩:=apG wr (.int .i64 i) (.int .i64 X) (.int .i64 Y) (.int .i64 Wd) (.int .i64 Ht) (.int .i64 r1) (.int .i64 r2) (.int .i64 r3) (.int .i64 r4) (.int .i64 mo)
    rw [← hgt,← e8]
    have B8:=aj.mk (ak HB.out hb8)
    have S9:=aj.mk (ay S8.out hb8)
    have HT:=aj.mk h8
    clear e8 hgt h8 hb8 y0 y1 y2 y3 y4 y5 y6 y7 y8 y9
    obtain ⟨y0,y1,y2,y3,y4,y5,y6,y7,y8,y9⟩:=aa8 HT.out
    go_wp2
    clear y0 y1 y2 y3 y4 y5 y6 y7 y8 y9
    go_loopg [66] (Wd.toNat) (fun ky s66 wz=>∃ (j:Int),s66 = .int .i64 j∧0≤j∧j≤Wd∧Wd - j≤ky∧aj (Below W8.heap.size W8 wz))
    case atStart=>exact ⟨0,rfl,by omega,by omega,by omega,⟨Below.refl _ _⟩⟩
    case round =>
      obtain ⟨j,rfl,j0,j1,j2,HZ⟩:=hrel
      have wj:IntKind.i64.wrap (j+1)=j+1:=by rw [kV];exact aC (by omega) (by omega)
      have HTz:=aj.mk (ay HT.out HZ.out)
      have HSz:=aj.mk (ay S9.out HZ.out)
      obtain ⟨s0,s1,s2⟩:=cells3 HSz.out
      obtain ⟨y0,y1,y2,y3,y4,y5,y6,y7,y8,y9⟩:=aa8 HTz.out
      by_cases hlj:j < Wd
      rotate_left
      · have hje:j=Wd:=by omega
        have hjd:decide (j < Wd)=false:=decide_eq_false hlj
        go_wp2
        clear hlj hje hjd wj j0 j1 j2 s0 s1 s2 y0 y1 y2 y3 y4 y5 y6 y7 y8 y9 HTz HSz
        go_loopg [100] (Ht.toNat) (fun kyy avT wz=>∃ (v:Int),avT = .int .i64 v∧0≤v∧v≤Ht∧Ht - v≤kyy∧aj (Below W8.heap.size W8 wz))
        case atStart=>exact ⟨0,rfl,by omega,by omega,by omega,HZ⟩
        case round =>
          obtain ⟨v,rfl,v0,v1,v2,HZy⟩:=hrel
          have wjy:IntKind.i64.wrap (v+1)=v+1:=by rw [kV];exact aC (by omega) (by omega)
          have asH:=aj.mk (ay HT.out HZy.out)
          have avU:=aj.mk (ay S9.out HZy.out)
          obtain ⟨s0,s1,s2⟩:=cells3 avU.out
          obtain ⟨y0,y1,y2,y3,y4,y5,y6,y7,y8,y9⟩:=aa8 asH.out
          by_cases asI:v < Ht
          rotate_left
          · have aA0:v=Ht:=by omega
            have avV:decide (v < Ht)=false:=decide_eq_false asI
            go_wp2
            go_roundg (n - (i+1))
            case measure=>omega
            case rel=>exact ⟨i+1,by simp,by omega,Nat.le_refl _,⟨ak B8.out HZy.out⟩⟩
          have avV:decide (v < Ht)=true:=decide_eq_true asI
          have aA1:IntKind.i64.wrap (Y+v)=Y+v:=by rw [kV];exact aC (by omega) (by omega)
          have C1y:=CYL.out (Y+v) (by omega) (by omega)
          have LNy:=aj.mk (LY.out (Y+v) wr (ak B8.out HZy.out) (by omega) (by omega))
          obtain ⟨l,hly⟩:∃ l,l=eY ty.lines (Y+v):=⟨_,rfl⟩
          rw [← hly] at C1y LNy
          obtain ⟨f0,asJ⟩:∃ v,v=l.f0:=⟨_,rfl⟩
          obtain ⟨ts,asK⟩:∃ v,v=l.f1:=⟨_,rfl⟩
          rw [← asJ,← asK] at C1y LNy
          obtain ⟨c1,c2,c3,c4,c5,c6,c7,c8⟩:=C1y
          have aA2:IntKind.i64.wrap (f0+(ts.length:Int))=f0+ts.length:=by rw [kV];exact aC (by omega) (by omega)
          have aA3:IntKind.i64.wrap (r2+r4)=r2+r4:=by rw [kV];exact aC (by omega) (by omega)
          have d1:decide (f0 < r2)=false:=decide_eq_false (by omega)
          have d2:decide (r2+r4 < f0+(ts.length:Int))=false:=decide_eq_false (by omega)
          have e1:¬ f0 < r2:=by omega
          have e2:¬ r2+r4 < f0+(ts.length:Int):=by omega
          have d3:decide (mo < (ts.length:Int))=false:=decide_eq_false (by omega)
          have e3:¬ mo < (ts.length:Int):=by omega
          clear hly asJ asK c1 c2 c3 c4 c5 c6 c7 c8
          go_upto_region 23 with (go_at_call 29;(with_reducible refine LNy.out.mono ?_);rintro e w9 ⟨_,rfl,hR,hb1⟩;obtain ⟨Al,cl,rfl⟩:=Kd.fQ hR;have B9:=aj.mk (ak HZy.out hb1);have T9:=aj.mk (ay asH.out hb1);clear hb1 hR)
          obtain ⟨W10,gl,e10,hgl,h10,afP⟩:=aks w9 (.int .i64 f0) (.slice Al ts.length cl)
          rw [← hgl,← e10]
          have B10:=aj.mk (ak B9.out afP)
          have T10:=aj.mk (ay T9.out afP)
          have L10:=aj.mk h10
          clear e10 hgl h10 afP y0 y1 y2 y3 y4 y5 y6 y7 y8 y9 s0 s1 s2
          obtain ⟨y0,y1,y2,y3,y4,y5,y6,y7,y8,y9⟩:=aa8 T10.out
          have z0:=(au L10.out 0).trans rfl
          have z1:=(au L10.out 1).trans rfl
          go_wp2
          go_roundg (Ht - (v+1)).toNat
          case measure=>omega
          case rel=>exact ⟨v+1,rfl,by omega,by omega,by omega,B10⟩
      have hjd:decide (j < Wd)=true:=decide_eq_true hlj
      have wxj:IntKind.i64.wrap (X+j)=X+j:=by rw [kV];exact aC (by omega) (by omega)
      have C1:=CXL.out (X+j) (by omega) (by omega)
      have LN:=aj.mk (LX.out (X+j) wr (ak B8.out HZ.out) (by omega) (by omega))
      obtain ⟨l,hl⟩:∃ l,l=eY tx.lines (X+j):=⟨_,rfl⟩
      rw [← hl] at C1 LN
      obtain ⟨f0,hf0⟩:∃ v,v=l.f0:=⟨_,rfl⟩
      obtain ⟨ts,hts⟩:∃ v,v=l.f1:=⟨_,rfl⟩
      rw [← hf0,← hts] at C1 LN
      obtain ⟨c1,c2,c3,c4,c5,c6,c7,c8⟩:=C1
      have wfl:IntKind.i64.wrap (f0+(ts.length:Int))=f0+ts.length:=by rw [kV];exact aC (by omega) (by omega)
      have wlc:IntKind.i64.wrap (r1+r3)=r1+r3:=by rw [kV];exact aC (by omega) (by omega)
      have d1:decide (f0 < r1)=false:=decide_eq_false (by omega)
      have d2:decide (r1+r3 < f0+(ts.length:Int))=false:=decide_eq_false (by omega)
      have e1:¬ f0 < r1:=by omega
      have e2:¬ r1+r3 < f0+(ts.length:Int):=by omega
      clear hl hf0 hts c1 c2 c3 c4 c5 c6 c7 c8
      go_upto_region 16 with (go_at_call 29;(with_reducible refine LN.out.mono ?_);rintro e w9 ⟨_,rfl,hR,hb1⟩;obtain ⟨Al,cl,rfl⟩:=Kd.fQ hR;have B9:=aj.mk (ak HZ.out hb1);have T9:=aj.mk (ay HTz.out hb1);clear hb1 hR)
      obtain ⟨W10,gl,e10,hgl,h10,afP⟩:=aks w9 (.int .i64 f0) (.slice Al ts.length cl)
      rw [← hgl,← e10]
      have B10:=aj.mk (ak B9.out afP)
      have T10:=aj.mk (ay T9.out afP)
      have L10:=aj.mk h10
      clear e10 hgl h10 afP y0 y1 y2 y3 y4 y5 y6 y7 y8 y9 s0 s1 s2
      obtain ⟨y0,y1,y2,y3,y4,y5,y6,y7,y8,y9⟩:=aa8 T10.out
      have z0:=(au L10.out 0).trans rfl
      have z1:=(au L10.out 1).trans rfl
      go_wp2
      go_roundg (Wd - (j+1)).toNat
      case measure=>omega
      case rel=>exact ⟨j+1,rfl,by omega,by omega,by omega,B10⟩
end Go.Proofs.YtpondkggmcmpfaaGreatDoor.QA
namespace Go.Proofs.YtpondkggmcmpfaaGreatDoor.QA
open Go.RowKit Go.Proofs.YtpondkggmcmpfaaGreatDoorW.PrintWords Go.Proofs.YtpondkggmcmpfaaGreatDoorW.PrintLast Go.Proofs.YtpondkggmcmpfaaGreatDoorW.PrintMore Go.Proofs.YtpondkggmcmpfaaGreatDoor.T
set_option linter.unusedVariables false
set_option linter.unusedSimpArgs false
section
open Go.ChangeShapes Go.WideShapes Go.ChangeAt
variable {H:Type} {enc:TypeId × Value→H} {W:World} {fuel:Nat} {cs:List Value} {x:DataW H × List MemPlace}
theorem aii (h:DataW.trod enc Tryz.prog W 0 (fun _=>true) true fuel 44 cs=some x):∃ (A:Option Addr) (l:List Int) (c:Nat),cs=[.slice A l.length c]∧l.length≤c∧Kd.C (Kd.int .i64) W A l.length l∧∀ z ∈ l,I64 z:=by
  rcases open_ints Tryz.underlying44 Tryz.underlying2 (by kernel_rfl) h with ⟨hcs,_⟩|⟨a,len,cap,zs,hcs,_,hl,hm,hz,_,hcell,hwz⟩
  · exact ⟨none,[],0,hcs,by decide,adH W,by simp⟩
  · have hz:zs.length=cap:=by simpa using hz
    obtain ⟨l,e,h1,h2,h3,h4⟩:=uh.arK (k := .i64) (w:=W) (a:=some a) (len:=len) (cap:=cap) (zs:=zs) (.inr ⟨a,rfl,hl,hm,hz,hcell,hwz⟩)
    subst e
    exact ⟨some a,l,cap,hcs,h4,Kd.alD (d:=(0:Int)) (h1:=fun _=>rfl) h1,fun z hz=>T.wf64 (h3 z hz)⟩
set_option maxRecDepth 100000 in
theorem arx (h:DataW.trod enc Tryz.prog W 0 (fun _=>true) true fuel 47 cs=some x):∃ o:S47,k47.K W o cs∧opI o:=by
  obtain ⟨xs,n,_,rfl,hl,hlen,hf⟩:=DataW.trod_struct Tryz.underlying47 h
  have hl9:cs.length=9:=hl.trans (by kernel_rfl)
  match cs,hl9 with
  | [u0,u1,u2,u3,u4,u5,u6,u7,u8],_ =>
  match xs,hlen with
  | [y0,y1,y2,y3,y4,y5,y6,y7,y8],_ =>
  have c0:Tryz.prog.cellsOf 43=1:=by kernel_rfl
  have c1:Tryz.prog.cellsOf 36=1:=by kernel_rfl
  have c2:Tryz.prog.cellsOf 2=1:=by kernel_rfl
  have c3:Tryz.prog.cellsOf 3=1:=by kernel_rfl
  have c4:Tryz.prog.cellsOf 44=1:=by kernel_rfl
  have c6:Tryz.prog.cellsOf 45=1:=by kernel_rfl
  have g0:DataW.trod enc Tryz.prog W 0 (fun _=>true) true n 43 (([u0,u1,u2,u3,u4,u5,u6,u7,u8].drop 0).take (Tryz.prog.cellsOf 43))=some y0:=hf 0 _ rfl
  have g1:DataW.trod enc Tryz.prog W 0 (fun _=>true) true n 36 (([u0,u1,u2,u3,u4,u5,u6,u7,u8].drop 1).take (Tryz.prog.cellsOf 36))=some y1:=hf 1 _ rfl
  have g2:DataW.trod enc Tryz.prog W 0 (fun _=>true) true n 2 (([u0,u1,u2,u3,u4,u5,u6,u7,u8].drop 2).take (Tryz.prog.cellsOf 2))=some y2:=hf 2 _ rfl
  have g3:DataW.trod enc Tryz.prog W 0 (fun _=>true) true n 3 (([u0,u1,u2,u3,u4,u5,u6,u7,u8].drop 3).take (Tryz.prog.cellsOf 3))=some y3:=hf 3 _ rfl
  have g4:DataW.trod enc Tryz.prog W 0 (fun _=>true) true n 44 (([u0,u1,u2,u3,u4,u5,u6,u7,u8].drop 4).take (Tryz.prog.cellsOf 44))=some y4:=hf 4 _ rfl
  have g5:DataW.trod enc Tryz.prog W 0 (fun _=>true) true n 44 (([u0,u1,u2,u3,u4,u5,u6,u7,u8].drop 5).take (Tryz.prog.cellsOf 44))=some y5:=hf 5 _ rfl
  have g6:DataW.trod enc Tryz.prog W 0 (fun _=>true) true n 45 (([u0,u1,u2,u3,u4,u5,u6,u7,u8].drop 6).take (Tryz.prog.cellsOf 45))=some y6:=hf 6 _ rfl
  have g7:DataW.trod enc Tryz.prog W 0 (fun _=>true) true n 3 (([u0,u1,u2,u3,u4,u5,u6,u7,u8].drop 7).take (Tryz.prog.cellsOf 3))=some y7:=hf 7 _ rfl
  have g8:DataW.trod enc Tryz.prog W 0 (fun _=>true) true n 3 (([u0,u1,u2,u3,u4,u5,u6,u7,u8].drop 8).take (Tryz.prog.cellsOf 3))=some y8:=hf 8 _ rfl
  simp only [c0,c1,c2,c3,c4,c6] at g0 g1 g2 g3 g4 g5 g6 g7 g8
  simp [List.drop,List.take] at g0 g1 g2 g3 g4 g5 g6 g7 g8
  obtain ⟨v0,e0,_,w0⟩:=DataW.trod_int Tryz.underlying43 g0
  obtain ⟨v1,e1,_,w1⟩:=DataW.trod_int Tryz.underlying36 g1
  obtain ⟨v2,e2,_,w2⟩:=DataW.trod_int Tryz.underlying2 g2
  obtain ⟨v3,e3,_,w3⟩:=DataW.trod_int Tryz.underlying3 g3
  obtain ⟨A4,l4,k4,e4,m4,r4,w4⟩:=aii g4
  obtain ⟨A5,l5,k5,e5,m5,r5,w5⟩:=aii g5
  obtain ⟨v6,e6,_,w6⟩:=DataW.trod_int Tryz.underlying45 g6
  obtain ⟨v7,e7,_,w7⟩:=DataW.trod_int Tryz.underlying3 g7
  obtain ⟨v8,e8,_,w8⟩:=DataW.trod_int Tryz.underlying3 g8
  simp only [List.cons.injEq,and_true] at e0 e1 e2 e3 e4 e5 e6 e7 e8
  subst e0 e1 e2 e3 e4 e5 e6 e7 e8
  exact ⟨⟨v0,v1,v2,v3,l4,l5,v6,v7,v8⟩,ant W ⟨v0,v1,v2,v3,l4,l5,v6,v7,v8⟩ m4 r4 m5 r5,T.wf64 w0,T.wf64 w1,T.wf64 w2,T.wf64 w3,w4,w5,T.wf64 w6,T.wf64 w7,T.wf64 w8⟩
end
section
open Go.ChangeShapes Go.WideShapes Go.ChangeAt
theorem anZ {H:Type} {enc:TypeId × Value→H} {W:World} {cs:Array Value} {d:DataW H} {ps:List MemPlace} (h:DataW.Trod enc Tryz.prog W 0 (fun _=>true) true 47 (.agg cs) d ps):∃ (o:S47) (A4:Option Addr) (c4:Nat) (A5:Option Addr) (c5:Nat),cs = #[.int .i64 o.f0,.int .i64 o.f1,.int .i64 o.f2,.int .i64 o.f3,.slice A4 o.f4.length c4,.slice A5 o.f5.length c5,.int .i64 o.f6,.int .i64 o.f7,.int .i64 o.f8]∧opI o∧Kd.C (Kd.int .i64) W A4 o.f4.length o.f4∧o.f4.length≤c4∧Kd.C (Kd.int .i64) W A5 o.f5.length o.f5∧o.f5.length≤c5:=by
  obtain ⟨fuel,hf⟩:=h
  obtain ⟨us,hus⟩:∃ us:List Value,us=cs.toList:=⟨_,rfl⟩
  have hcs:(Value.agg cs).cells.toList=us:=by rw [hus];rfl
  rw [hcs] at hf
  obtain ⟨o,hK,hI⟩:=arx hf
  obtain ⟨A4,c4,A5,c5,e,l4,g4,l5,g5⟩:=ajj hK
  refine ⟨o,A4,c4,A5,c5,?_,hI,g4,l4,g5,l5⟩
  rw [hus] at e
  cases cs with|mk ls=>exact congrArg Array.mk e
end
end Go.Proofs.YtpondkggmcmpfaaGreatDoor.QA
