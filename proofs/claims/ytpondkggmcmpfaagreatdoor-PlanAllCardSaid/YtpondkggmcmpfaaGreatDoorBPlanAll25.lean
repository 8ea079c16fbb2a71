/- Joined by wip/tools/bundle.py out of: TL TLr. -/
import Derived.Test.YtpondkggmcmpfaaGreatDoorBPlanAll1
import Derived.Test.YtpondkggmcmpfaaGreatDoorBPlanAll8
import Derived.Test.YtpondkggmcmpfaaGreatDoorBPlanAll14
import Derived.Handy
import Derived.Lib.SliceRun
import Derived.Test.YtpondkggmcmpfaaGreatDoorBPlanAll0
import Derived.Test.YtpondkggmcmpfaaGreatDoorBPlanAll10
import Derived.Test.YtpondkggmcmpfaaGreatDoorBPlanAll11
import Derived.Test.YtpondkggmcmpfaaGreatDoorBPlanAll15
import Derived.Test.YtpondkggmcmpfaaGreatDoorBPlanAll16
import Derived.Test.YtpondkggmcmpfaaGreatDoorBPlanAll17
import Derived.Test.YtpondkggmcmpfaaGreatDoorBPlanAll18
import Derived.Test.YtpondkggmcmpfaaGreatDoorBPlanAll19
import Derived.Test.YtpondkggmcmpfaaGreatDoorBPlanAll20
import Derived.Test.YtpondkggmcmpfaaGreatDoorBPlanAll21
import Derived.Test.YtpondkggmcmpfaaGreatDoorBPlanAll22
import Derived.Test.YtpondkggmcmpfaaGreatDoorBPlanAll23
import Derived.Test.YtpondkggmcmpfaaGreatDoorBPlanAll24
import Derived.ProofKit
import Derived.OpenShut
import Derived.ChangeSame
import Derived.LaidMore
import Derived.DataReads
namespace Go.Proofs.YtpondkggmcmpfaaGreatDoor.QA
open Go.RowKit Go.Proofs.YtpondkggmcmpfaaGreatDoorW.PrintWords Go.Proofs.YtpondkggmcmpfaaGreatDoorW.PrintLast Go.Proofs.YtpondkggmcmpfaaGreatDoorW.PrintMore Go.Proofs.YtpondkggmcmpfaaGreatDoor.T
set_option linter.unusedVariables false
set_option linter.unusedSimpArgs false
theorem akk {n s:Int} (h1:1≤n) (h3:1≤s):dO n s≤n:=by
  unfold dO
  have h:n+s - 1≤n*s:=by
    have:0≤(n - 1)*(s - 1):=Int.mul_nonneg (by omega) (by omega)
    rw [Int.sub_mul,Int.mul_sub] at this;omega
  have:=Int.ediv_le_ediv (show 0 < s by omega) h
  rwa [Int.mul_ediv_cancel _ (by omega)] at this
theorem arn {o:S47} {W H:Int} {s:Int} (ho:aaO o) (hW:nS W) (hH:nS H) (hl:vM o s) (sW:W≤s) (sH:H≤s):1≤(nJ o W).lines.length∧((nJ o W).lines.length:Int)≤s∧1≤(nK o H).lines.length∧((nK o H).lines.length:Int)≤s:=by
  have h1:=hW.1;have h2:=hH.1
  unfold nJ nK
  by_cases h3:o.f0=3
  · rw [if_pos h3,if_pos h3,qU,qU]
    obtain ⟨a1,a2,a3,a4,a5,a6⟩:=ho.2.2.2.2 h3
    obtain ⟨-,-,-,-,b1,b2⟩:=hl
    omega
  · rw [if_neg h3,if_neg h3,qW,qW]
    omega
structure akl (tx ty:Tab):Prop where
  x:Told tx
  y:Told ty
  x1:1≤tx.lines.length
  x2:tx.lines.length≤20
  y1:1≤ty.lines.length
  y2:ty.lines.length≤20
theorem avJ {o:S47} {wd ht:Int} (hw:0≤wd) (hh:0≤ht) (hI:opI o) (h:yh [o] 20=true∧iZ o (1+wd % 20) (1+ht % 20)=0):akl (nJ o (1+wd % 20)) (nK o (1+ht % 20)):=by
  have hl:vM o 20:=ae7 h.1 0 (by simp)
  have l1:=hl.1;have l2:=hl.2.1
  obtain ⟨a,b,-,-,ho,hW,hH⟩:=arj hI (by omega) (by omega) h.2
  obtain ⟨x1,x2,y1,y2⟩:=arn ho hW hH hl (by omega) (by omega)
  exact ⟨a,b,x1,by omega,y1,by omega⟩
theorem akl.B {tx ty:Tab} (h:akl tx ty) {a b:Int} (a1:1≤a) (a2:a≤4096) (b1:1≤b) (b2:b≤4096):xC a b tx ty:=⟨a1,a2,b1,b2,h.x1,by have:=h.x2;omega,h.y1,by have:=h.y2;omega⟩
theorem akl.n {tx ty:Tab} (h:akl tx ty) {a b:Int} (a1:1≤a) (b1:1≤b):∃ n:Nat,(n:Int)=dO tx.lines.length a*dO ty.lines.length b∧n≤400:=by
  have h1:=akk (n:=(tx.lines.length:Int)) (s:=a) (by have:=h.x1;omega) a1
  have h2:=akk (n:=(ty.lines.length:Int)) (s:=b) (by have:=h.y1;omega) b1
  have k1:0≤dO tx.lines.length a:=Int.ediv_nonneg (by omega) (by omega)
  have k2:0≤dO ty.lines.length b:=Int.ediv_nonneg (by omega) (by omega)
  have x2:=h.x2;have y2:=h.y2
  have m1:0≤dO tx.lines.length a*dO ty.lines.length b:=Int.mul_nonneg k1 k2
  have m2:dO tx.lines.length a*dO ty.lines.length b≤20*20:=Int.le_trans (Int.mul_le_mul_of_nonneg_right (by omega:dO tx.lines.length a≤20) k2) (Int.mul_le_mul_of_nonneg_left (by omega) (by decide))
  exact ⟨(dO tx.lines.length a*dO ty.lines.length b).toNat,by omega,by omega⟩
theorem asA (w:World) (v0 v1 v2 v3 v4 v5 v6 v7 v8:Value):∃ W1 g,W1=w.alloc (.cells #[v0,v1,v2,v3,v4,v5,v6,v7,v8] 47)∧g=w.heap.size∧W1.heap[g]? = some (.cells #[v0,v1,v2,v3,v4,v5,v6,v7,v8] 47 (0,0))∧Below w.heap.size w W1:=⟨_,_,rfl,rfl,heap_alloc_new w _,aT (Below.refl _ _) _⟩
theorem asB (w:World) (v0 v1 v2 u0 u1 u2 u3 u4:Value):∃ W5 g,W5=(w.alloc (.cells #[v0,v1,v2] 38)).alloc (.cells #[u0,u1,u2,u3,u4] 41)∧g=w.heap.size∧W5.heap[g]? = some (.cells #[v0,v1,v2] 38 (0,0))∧Below w.heap.size w W5:=⟨_,_,rfl,rfl,(by rw [qX _ _ _ (by simp)];exact heap_alloc_new w _),aT (aT (Below.refl _ _) _) _⟩
theorem apA (w:World) (v0 v1 v2 v3 v4 v5 v6 v7 v8 v9:Value):∃ W1 g,W1=w.alloc (.cells #[v0,v1,v2,v3,v4,v5,v6,v7,v8,v9] 58)∧g=w.heap.size∧W1.heap[g]? = some (.cells #[v0,v1,v2,v3,v4,v5,v6,v7,v8,v9] 58 (0,0))∧Below w.heap.size w W1:=⟨_,_,rfl,rfl,heap_alloc_new w _,aT (Below.refl _ _) _⟩
set_option maxHeartbeats 8000000 in
set_option maxRecDepth 100000 in
theorem aif (o:S47) (A4:Option Addr) (c4:Nat) (A5:Option Addr) (c5:Nat) (wd ht tw th:Int) (hw:0≤wd∧wd≤255) (hh:0≤ht∧ht≤255) (htw:0≤tw∧tw≤255) (hth:0≤th∧th≤255) (w:World) (hG:GL w) (hI:opI o) (hx:Kd.C (Kd.int .i64) w A4 o.f4.length o.f4) (lx:o.f4.length≤c4) (hy:Kd.C (Kd.int .i64) w A5 o.f5.length o.f5) (ly:o.f5.length≤c5) :
    Calls Tryz.prog 4 #[opV o.f0 o.f1 o.f2 o.f3 A4 o.f4.length c4 A5 o.f5.length c5 o.f6 o.f7 o.f8,.int .u8 wd,.int .u8 ht,.int .u8 tw,.int .u8 th] w fun e w'=>e = .returned (.bool true)∧Below w.heap.size w w':=by
  have LV:=aj.mk (fun w' (hb:Below w.heap.size w w')=>aiC w' (hG.below hb))
  have SG:=aj.mk (fun w' (hb:Below w.heap.size w w')=>akj o A4 c4 A5 c5 wd ht hw hh w' (hG.below hb) hI (Kd.bY hx hb) lx (Kd.bY hy hb) ly)
  have PL:=aj.mk (avJ (o:=o) hw.1 hh.1 hI)
  unfold amN amO at SG
  obtain ⟨tx,htx⟩:∃ x,x=nJ o (1+wd % 20):=⟨_,rfl⟩
  obtain ⟨ty,hty⟩:∃ x,x=nK o (1+ht % 20):=⟨_,rfl⟩
  rw [← htx,← hty] at SG PL
  obtain ⟨C,hC⟩:∃ C,C=(yh [o] 20=true∧iZ o (1+wd % 20) (1+ht % 20)=0):=⟨_,rfl⟩
  obtain ⟨l1,hl1⟩:∃ l,l=(tx.lines.map toR).length:=⟨_,rfl⟩
  obtain ⟨l2,hl2⟩:∃ l,l=(ty.lines.map toR).length:=⟨_,rfl⟩
  obtain ⟨p,hp⟩:∃ x,x=o.f4.length:=⟨_,rfl⟩
  obtain ⟨q,hq⟩:∃ x,x=o.f5.length:=⟨_,rfl⟩
  rw [← hl1,← hl2,← hp,← hq] at SG
  rw [← hp,← hq]
  have hCd:C∨¬ C:=Classical.em _
  rw [← hC] at PL
  have SG2:aj ((C→∀ w',Below w.heap.size w w'→_)∧(¬ C→∀ w',Below w.heap.size w w'→_)):=⟨fun h w' hb=>by have:=SG.out w' hb;rw [if_pos (by rw [← hC];exact h)] at this;exact this,fun h w' hb=>by have:=SG.out w' hb;rw [if_neg (by rw [← hC];exact h)] at this;exact this⟩
  clear SG hG hI hx lx hy ly htx hty hC hl1 hl2 hp hq
  obtain ⟨k,b,s,r,x4,x5,f,ow,oh⟩:=o
  simp only at *
  obtain ⟨W1,g,e1,hg,h1,hb1⟩:=asA w (.int .i64 k) (.int .i64 b) (.int .i64 s) (.int .i64 r) (.slice A4 p c4) (.slice A5 q c5) (.int .i64 f) (.int .i64 ow) (.int .i64 oh)
  have E1:=aj.mk e1
  have EG:=aj.mk hg
  have H1:=aj.mk h1
  have BX:=aj.mk hb1
  clear e1 hg h1 hb1
  have mixed:Tryz.prog.follows .mixedOrders=true:=by kernel_rfl
  unfold opV at *
  rcases hCd with hC|hC
  rotate_left
  · have SG:=aj.mk (SG2.out.2 hC)
    clear SG2 PL hC
    go_enter Tryz.func4,Tryz.ntmps4
    go_upto_region 1 with fail
    rw [← EG.out,← E1.out]
    go_upto_region 3 with (go_at_call 18;(with_reducible refine (LV.out _ BX.out).mono ?_);rintro e w2 ⟨rfl,hb1⟩;have B2:=aj.mk (ak BX.out hb1);have H2:=aj.mk (ay H1.out hb1);clear hb1)
    obtain ⟨z0,z1,z2,z3,z4,z5,z6,z7,z8⟩:=cells9 H2.out
    go_wp2_with (go_at_call 19;(with_reducible refine (SG.out _ B2.out).mono ?_);rintro e w3 ⟨hb1,rfl⟩;have B3:=aj.mk (ak B2.out hb1);clear hb1)
    go_ret
    exact ⟨rfl,aT (aT B3.out _) _⟩
  · have SG:=aj.mk (SG2.out.1 hC)
    have PW:=PL.out hC
    clear SG2 PL hC
    obtain ⟨a,ha⟩:∃ a,a=1+tw % 24:=⟨_,rfl⟩
    obtain ⟨bb,hbb⟩:∃ a,a=1+th % 24:=⟨_,rfl⟩
    have a1:1≤a∧a≤24:=by omega
    have b1:1≤bb∧bb≤24:=by omega
    have HA:=aj.mk ha
    have HBB:=aj.mk hbb
    clear ha hbb
    have PB:=aj.mk (PW.B (a:=a) (b:=bb) a1.1 (by omega) b1.1 (by omega))
    obtain ⟨n,hn,n4⟩:=PW.n (a:=a) (b:=bb) a1.1 b1.1
    have HNN:=aj.mk hn
    have HNB:=aj.mk PW
    clear hn PW
    go_enter Tryz.func4,Tryz.ntmps4
    go_upto_region 1 with fail
    rw [← EG.out,← E1.out]
    go_upto_region 3 with (go_at_call 18;(with_reducible refine (LV.out _ BX.out).mono ?_);rintro e w2 ⟨rfl,hb1⟩;have B2:=aj.mk (ak BX.out hb1);have H2:=aj.mk (ay H1.out hb1);clear hb1)
    obtain ⟨z0,z1,z2,z3,z4,z5,z6,z7,z8⟩:=cells9 H2.out
    go_upto_region 4 with (go_at_call 19;(with_reducible refine (SG.out _ B2.out).mono ?_);rintro e w3 ⟨hb1,bx,bz,A1,k1,A2,k2,rfl,tx3,ty3,-,-,-,-⟩;have B3:=aj.mk (ak B2.out hb1);have X3:=aj.mk tx3;have Y3:=aj.mk ty3;clear hb1 tx3 ty3)
    clear z0 z1 z2 z3 z4 z5 z6 z7 z8
    obtain ⟨W5,gs,e5,hgs,h5,hb5⟩:=asB w3 (.pointer (some ⟨bx,0,none⟩)) (.pointer (some ⟨bz,0,none⟩)) (.int .i64 b) (.slice A1 l1 k1) (.slice A2 l2 k2) (.int .i64 (1+wd % 20)) (.int .i64 (1+ht % 20)) (.int .i64 b)
    rw [← hgs,← e5]
    have B5:=aj.mk (ak B3.out hb5)
    have X5:=aj.mk (X3.out.below hb5)
    have Y5:=aj.mk (Y3.out.below hb5)
    have S5:=aj.mk h5
    clear e5 hgs h5 hb5 X3 Y3 B3 H2 B2 LV SG
    obtain ⟨s0,s1,s2⟩:=cells3 S5.out
    go_upto_region 7 with fail
    rw [← HA.out,← HBB.out]
    go_upto_region 11 with (go_at_call 20;(with_reducible refine (anF bx bz b a bb W5 ⟨a1.1,by omega⟩ ⟨b1.1,by omega⟩).mono ?_);rintro e w6 ⟨hb1,bp,rfl,hp4⟩;have B6:=aj.mk (ak B5.out hb1);have X6:=aj.mk (X5.out.below hb1);have Y6:=aj.mk (Y5.out.below hb1);have S6:=aj.mk (ay S5.out hb1);have HP:=aj.mk (show sD w6 bp bx bz b a bb tx ty from ⟨hp4,X5.out.below hb1,Y5.out.below hb1⟩);clear hb1 hp4)
    clear s0 s1 s2
    go_wp2_with (go_at_call 21;(with_reducible refine (ahI bp bx bz b a bb tx ty n w6 HP.out PB.out HNN.out (by omega)).mono ?_);rintro e w7 ⟨hb1,A,c,rfl,hc,hC⟩;have B7:=aj.mk (ak B6.out hb1);have X7:=aj.mk (X6.out.below hb1);have Y7:=aj.mk (Y6.out.below hb1);have S7:=aj.mk (ay S6.out hb1);have HC:=aj.mk hC;clear hb1 hC)
    clear B6 X6 Y6 S6 HP S5 X5 Y5 B5
    obtain ⟨nx,hnx⟩:∃ v:Int,v=tx.lines.length:=⟨_,rfl⟩
    obtain ⟨ny,hny⟩:∃ v:Int,v=ty.lines.length:=⟨_,rfl⟩
    have N1:1≤nx∧nx≤20:=by have:=HNB.out.x1;have:=HNB.out.x2;omega
    have N2:1≤ny∧ny≤20:=by have:=HNB.out.y1;have:=HNB.out.y2;omega
    have TX:=aj.mk (fun w' (hb:Below w7.heap.size w7 w')=>pz bx tx w' (X7.out.below hb))
    have TY:=aj.mk (fun w' (hb:Below w7.heap.size w7 w')=>pz bz ty w' (Y7.out.below hb))
    have MY:=aj.mk (fun w' (hb:Below w7.heap.size w7 w')=>agf bz ty w' (Y7.out.below hb))
    rw [← hnx] at TX
    rw [← hny] at TY
    have HNX:=aj.mk hnx
    have HNY:=aj.mk hny
    obtain ⟨mo,hmo⟩:∃ v,v=ty.most:=⟨_,rfl⟩
    rw [← hmo] at MY
    have HMO:=aj.mk hmo
    clear hnx hny hmo X7 Y7
    go_loopg [18,19,58] n (fun kx s18 s19 s58 wr=>∃ (i:Nat) (X Y:Int),s58 = .int .i64 i∧s18 = .int .i64 X∧s19 = .int .i64 Y∧i≤n∧n - i≤kx∧aj (X=kR tx a i∧Y=lU tx a bb i)∧aj (Below w7.heap.size w7 wr))
    case atStart=>exact ⟨0,0,0,rfl,rfl,rfl,by omega,by omega,⟨(aki tx a bb).1.symm,(aki tx a bb).2.symm⟩,⟨Below.refl _ _⟩⟩
    case round =>
      obtain ⟨i,X,Y,rfl,rfl,rfl,i1,i2,HXY,HB⟩:=hrel
      have wi:IntKind.i64.wrap ((i:Int)+1)=(i:Int)+1:=by rw [mM];exact aC (by omega) (by omega)
      have S8:=aj.mk (ay S7.out HB.out)
      obtain ⟨s0,s1,s2⟩:=cells3 S8.out
      by_cases hlt:(i:Int) < (n:Int)
      rotate_left
      · have him:i=n:=by omega
        subst him
        have oe:=arl PB.out
        rw [← HNN.out,← HXY.out.1,← HXY.out.2,← HNY.out] at oe
        obtain ⟨rfl,hge⟩:=oe
        have hgd:decide (ny≤Y)=true:=decide_eq_true hge
        go_wp2_with (go_at_call 22;(with_reducible refine (TY.out _ HB.out).mono ?_);rintro e w8 ⟨rfl,rfl⟩)
        go_ret
        exact ⟨rfl,ak B7.out HB.out⟩
      have p1:(0≤(i:Int)):=by omega
      have q0:i < n:=by omega
      have xb:=afJ (i:=(i:Int)) PB.out
      have yb:=afK (i:=(i:Int)) PB.out (by omega) (by rw [← HNN.out];omega)
      have nt:=anK (i:=(i:Int)) PB.out
      rw [← HXY.out.1,← HXY.out.2,← HNX.out] at nt
      rw [← HXY.out.1,← HNX.out] at xb
      rw [← HXY.out.2,← HNY.out] at yb
      have NT:=aj.mk nt
      obtain ⟨ad,e0,y0,y1,y2,y3,y4,y5,y6,y7,y8,y9⟩:=arK (Kd.bY HC.out HB.out) (i:Int) p1 hlt
      subst e0
      obtain ⟨Wd,hWd⟩:∃ v,v=outW tx a i:=⟨_,rfl⟩
      obtain ⟨Ht,hHt⟩:∃ v,v=wB tx ty a bb i:=⟨_,rfl⟩
      obtain ⟨r1,r2,r3,r4,hT⟩:∃ r1 r2 r3 r4,sJ (yj tx ty a bb n) (i:Int)=⟨(i:Int),X,Y,Wd,Ht,r1,r2,r3,r4,mo⟩:=⟨_,_,_,_,by rw [apx _ _ _ _ q0,agM,← hWd,← hHt,← HXY.out.1,← HXY.out.2,← HMO.out]⟩
      rw [hT,Int.toNat_natCast] at y0 y1 y2 y3 y4 y5 y6 y7 y8 y9
      simp only at y0 y1 y2 y3 y4 y5 y6 y7 y8 y9
      have eW:min a (nx - X)=Wd:=by rw [hWd,outW,← HXY.out.1,← HNX.out]
      have eH:min bb (ny - Y)=Ht:=by rw [hHt,wB,← HXY.out.2,← HNY.out]
      have wX:IntKind.i64.wrap (nx - X)=nx - X:=by rw [mM];exact aC (by omega) (by omega)
      have wY:IntKind.i64.wrap (ny - Y)=ny - Y:=by rw [mM];exact aC (by omega) (by omega)
      have wXa:IntKind.i64.wrap (X+a)=X+a:=by rw [mM];exact aC (by omega) (by omega)
      have wYb:IntKind.i64.wrap (Y+bb)=Y+bb:=by rw [mM];exact aC (by omega) (by omega)
      have v1:(X != X)=false:=by simp
      have v2:(Y != Y)=false:=by simp
      have v3:(Wd != Wd)=false:=by simp
      have v4:(Ht != Ht)=false:=by simp
      have v5:(mo != mo)=false:=by simp
      have v6:((i:Int) != (i:Int))=false:=by simp
      clear hT hWd hHt nt
      go_upto_region 14 with fail
      obtain ⟨W8,gt,e8,hgt,h8,hb8⟩:=apA wr (.int .i64 i) (.int .i64 X) (.int .i64 Y) (.int .i64 Wd) (.int .i64 Ht) (.int .i64 r1) (.int .i64 r2) (.int .i64 r3) (.int .i64 r4) (.int .i64 mo)
      rw [← hgt,← e8]
      have B8:=aj.mk (ak HB.out hb8)
      have S9:=aj.mk (ay S8.out hb8)
      have HT:=aj.mk h8
      clear e8 hgt h8 hb8 s0 s1 s2 y0 y1 y2 y3 y4 y5 y6 y7 y8 y9
      obtain ⟨s0,s1,s2⟩:=cells3 S9.out
      obtain ⟨y0,y1,y2,y3,y4,y5,y6,y7,y8,y9⟩:=alf HT.out
      have TX8:=aj.mk (fun n=>TX.out (W8.drewN n) (aI B8.out n))
      have TY8:=aj.mk (fun n=>TY.out (W8.drewN n) (aI B8.out n))
      have MY8:=aj.mk (fun n=>MY.out (W8.drewN n) (aI B8.out n))
      go_quiet (first
        | (go_at_call 22;exact Calls.quiet_of_same (TX8.out _))
        | (go_at_call 22;exact Calls.quiet_of_same (TY8.out _))
        | (go_at_call 23;exact Calls.quiet_of_same (MY8.out _)))
      have B9:=aj.mk (aI B8.out nq)
      have S10:=aj.mk (ay S9.out (aI (Below.refl W8.heap.size W8) nq))
      generalize W8.drewN nq=W9 at B9 S10 ⊢
      clear s0 s1 s2 y0 y1 y2 y3 y4 y5 y6 y7 y8 y9
      obtain ⟨s0,s1,s2⟩:=cells3 S10.out
      by_cases hge:nx≤X+a
      · have hgd:decide (nx≤X+a)=true:=decide_eq_true hge
        go_wp2_with (go_at_call 22;(with_reducible refine (TX.out _ B9.out).mono ?_);rintro e w8 ⟨rfl,rfl⟩)
        go_roundg (n - (i+1))
        case measure=>omega
        case rel=>exact ⟨i+1,0,Y+bb,by simp,rfl,rfl,by omega,Nat.le_refl _,⟨(NT.out.1 hge).1.symm,(NT.out.1 hge).2.symm⟩,B9⟩
      · have hgd:decide (nx≤X+a)=false:=decide_eq_false hge
        go_wp2_with (go_at_call 22;(with_reducible refine (TX.out _ B9.out).mono ?_);rintro e w8 ⟨rfl,rfl⟩)
        go_roundg (n - (i+1))
        case measure=>omega
        case rel=>exact ⟨i+1,X+a,Y,by simp,rfl,rfl,by omega,Nat.le_refl _,⟨(NT.out.2 hge).1.symm,(NT.out.2 hge).2.symm⟩,B9⟩
end Go.Proofs.YtpondkggmcmpfaaGreatDoor.QA
namespace Go.Proofs.YtpondkggmcmpfaaGreatDoor.QA
open Go.RowKit Go.Proofs.YtpondkggmcmpfaaGreatDoorW.PrintWords Go.Proofs.YtpondkggmcmpfaaGreatDoorW.PrintLast Go.Proofs.YtpondkggmcmpfaaGreatDoorW.PrintMore Go.Proofs.YtpondkggmcmpfaaGreatDoor.T
set_option linter.unusedVariables false
set_option linter.unusedSimpArgs false
section
open Go.ChangeShapes Go.WideShapes Go.ChangeAt
variable {H:Type} {enc:TypeId × Value→H} {W:World} {fuel:Nat} {cs:List Value} {x:DataW H × List MemPlace}
theorem ah9 (h:DataW.trod enc Tryz.prog W 0 (fun _=>true) true fuel 44 cs=some x):∃ (A:Option Addr) (l:List Int) (c:Nat),cs=[.slice A l.length c]∧l.length≤c∧Kd.C (Kd.int .i64) W A l.length l∧∀ z ∈ l,I64 z:=by
  rcases open_ints Tryz.underlying44 Tryz.underlying2 (by kernel_rfl) h with ⟨hcs,_⟩|⟨a,len,cap,zs,hcs,_,hl,hm,hz,_,hcell,hwz⟩
  · exact ⟨none,[],0,hcs,by decide,adE W,by simp⟩
  · have hz:zs.length=cap:=by simpa using hz
    obtain ⟨l,e,h1,h2,h3,h4⟩:=ug.arE (k := .i64) (w:=W) (a:=some a) (len:=len) (cap:=cap) (zs:=zs) (.inr ⟨a,rfl,hl,hm,hz,hcell,hwz⟩)
    subst e
    exact ⟨some a,l,cap,hcs,h4,Kd.alv (d:=(0:Int)) (h1:=fun _=>rfl) h1,fun z hz=>T.wf64 (h3 z hz)⟩
set_option maxRecDepth 100000 in
theorem aro (h:DataW.trod enc Tryz.prog W 0 (fun _=>true) true fuel 47 cs=some x):∃ o:S47,k47.K W o cs∧opI o:=by
  obtain ⟨xs,n,_,rfl,hl,hlen,hf⟩:=DataW.trod_struct Tryz.underlying47 h
  have hl9:cs.length=9:=hl.trans (by kernel_rfl)
  match cs,hl9 with
  | [u0,u1,u2,u3,u4,u5,u6,u7,u8],_ =>
  match xs,hlen with
  | [y0,y1,y2,y3,y4,y5,y6,y7,y8],_ =>
  have c0:Tryz.prog.cellsOf 43=1:=by kernel_rfl
  have c1:Tryz.prog.cellsOf 36=1:=by kernel_rfl
  have c2:Tryz.prog.cellsOf 2=1:=by kernel_rfl
  have c3:Tryz.prog.cellsOf 3=1:=by kernel_rfl
  have c4:Tryz.prog.cellsOf 44=1:=by kernel_rfl
  have c6:Tryz.prog.cellsOf 45=1:=by kernel_rfl
  have g0:DataW.trod enc Tryz.prog W 0 (fun _=>true) true n 43 (([u0,u1,u2,u3,u4,u5,u6,u7,u8].drop 0).take (Tryz.prog.cellsOf 43))=some y0:=hf 0 _ rfl
  have g1:DataW.trod enc Tryz.prog W 0 (fun _=>true) true n 36 (([u0,u1,u2,u3,u4,u5,u6,u7,u8].drop 1).take (Tryz.prog.cellsOf 36))=some y1:=hf 1 _ rfl
  have g2:DataW.trod enc Tryz.prog W 0 (fun _=>true) true n 2 (([u0,u1,u2,u3,u4,u5,u6,u7,u8].drop 2).take (Tryz.prog.cellsOf 2))=some y2:=hf 2 _ rfl
  have g3:DataW.trod enc Tryz.prog W 0 (fun _=>true) true n 3 (([u0,u1,u2,u3,u4,u5,u6,u7,u8].drop 3).take (Tryz.prog.cellsOf 3))=some y3:=hf 3 _ rfl
  have g4:DataW.trod enc Tryz.prog W 0 (fun _=>true) true n 44 (([u0,u1,u2,u3,u4,u5,u6,u7,u8].drop 4).take (Tryz.prog.cellsOf 44))=some y4:=hf 4 _ rfl
  have g5:DataW.trod enc Tryz.prog W 0 (fun _=>true) true n 44 (([u0,u1,u2,u3,u4,u5,u6,u7,u8].drop 5).take (Tryz.prog.cellsOf 44))=some y5:=hf 5 _ rfl
  have g6:DataW.trod enc Tryz.prog W 0 (fun _=>true) true n 45 (([u0,u1,u2,u3,u4,u5,u6,u7,u8].drop 6).take (Tryz.prog.cellsOf 45))=some y6:=hf 6 _ rfl
  have g7:DataW.trod enc Tryz.prog W 0 (fun _=>true) true n 3 (([u0,u1,u2,u3,u4,u5,u6,u7,u8].drop 7).take (Tryz.prog.cellsOf 3))=some y7:=hf 7 _ rfl
  have g8:DataW.trod enc Tryz.prog W 0 (fun _=>true) true n 3 (([u0,u1,u2,u3,u4,u5,u6,u7,u8].drop 8).take (Tryz.prog.cellsOf 3))=some y8:=hf 8 _ rfl
  simp only [c0,c1,c2,c3,c4,c6] at g0 g1 g2 g3 g4 g5 g6 g7 g8
  simp [List.drop,List.take] at g0 g1 g2 g3 g4 g5 g6 g7 g8
  obtain ⟨v0,e0,_,w0⟩:=DataW.trod_int Tryz.underlying43 g0
  obtain ⟨v1,e1,_,w1⟩:=DataW.trod_int Tryz.underlying36 g1
  obtain ⟨v2,e2,_,w2⟩:=DataW.trod_int Tryz.underlying2 g2
  obtain ⟨v3,e3,_,w3⟩:=DataW.trod_int Tryz.underlying3 g3
  obtain ⟨A4,l4,k4,e4,m4,r4,w4⟩:=ah9 g4
  obtain ⟨A5,l5,k5,e5,m5,r5,w5⟩:=ah9 g5
  obtain ⟨v6,e6,_,w6⟩:=DataW.trod_int Tryz.underlying45 g6
  obtain ⟨v7,e7,_,w7⟩:=DataW.trod_int Tryz.underlying3 g7
  obtain ⟨v8,e8,_,w8⟩:=DataW.trod_int Tryz.underlying3 g8
  simp only [List.cons.injEq,and_true] at e0 e1 e2 e3 e4 e5 e6 e7 e8
  subst e0 e1 e2 e3 e4 e5 e6 e7 e8
  exact ⟨⟨v0,v1,v2,v3,l4,l5,v6,v7,v8⟩,anl W ⟨v0,v1,v2,v3,l4,l5,v6,v7,v8⟩ m4 r4 m5 r5,T.wf64 w0,T.wf64 w1,T.wf64 w2,T.wf64 w3,w4,w5,T.wf64 w6,T.wf64 w7,T.wf64 w8⟩
end
section
open Go.ChangeShapes Go.WideShapes Go.ChangeAt
theorem anT {H:Type} {enc:TypeId × Value→H} {W:World} {cs:Array Value} {d:DataW H} {ps:List MemPlace} (h:DataW.Trod enc Tryz.prog W 0 (fun _=>true) true 47 (.agg cs) d ps):∃ (o:S47) (A4:Option Addr) (c4:Nat) (A5:Option Addr) (c5:Nat),cs = #[.int .i64 o.f0,.int .i64 o.f1,.int .i64 o.f2,.int .i64 o.f3,.slice A4 o.f4.length c4,.slice A5 o.f5.length c5,.int .i64 o.f6,.int .i64 o.f7,.int .i64 o.f8]∧opI o∧Kd.C (Kd.int .i64) W A4 o.f4.length o.f4∧o.f4.length≤c4∧Kd.C (Kd.int .i64) W A5 o.f5.length o.f5∧o.f5.length≤c5:=by
  obtain ⟨fuel,hf⟩:=h
  obtain ⟨us,hus⟩:∃ us:List Value,us=cs.toList:=⟨_,rfl⟩
  have hcs:(Value.agg cs).cells.toList=us:=by rw [hus];rfl
  rw [hcs] at hf
  obtain ⟨o,hK,hI⟩:=aro hf
  obtain ⟨A4,c4,A5,c5,e,l4,g4,l5,g5⟩:=aje hK
  refine ⟨o,A4,c4,A5,c5,?_,hI,g4,l4,g5,l5⟩
  rw [hus] at e
  cases cs with|mk ls=>exact congrArg Array.mk e
end
end Go.Proofs.YtpondkggmcmpfaaGreatDoor.QA
