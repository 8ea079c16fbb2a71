/- Joined by wip/tools/bundle.py out of: TC4 TCr. -/
import Derived.Test.YtpondkggmcmpfaaGreatDoorBPlanCovers1
import Derived.Test.YtpondkggmcmpfaaGreatDoorBPlanCovers8
import Derived.Test.YtpondkggmcmpfaaGreatDoorBPlanCovers14
import Derived.Handy
import Derived.Lib.SliceRun
import Derived.Test.YtpondkggmcmpfaaGreatDoorBPlanCovers0
import Derived.Maps.RangeRun
import Derived.Test.YtpondkggmcmpfaaGreatDoorBPlanCovers10
import Derived.Test.YtpondkggmcmpfaaGreatDoorBPlanCovers11
import Derived.Test.YtpondkggmcmpfaaGreatDoorBPlanCovers15
import Derived.Test.YtpondkggmcmpfaaGreatDoorBPlanCovers16
import Derived.Test.YtpondkggmcmpfaaGreatDoorBPlanCovers17
import Derived.Test.YtpondkggmcmpfaaGreatDoorBPlanCovers18
import Derived.Test.YtpondkggmcmpfaaGreatDoorBPlanCovers19
import Derived.Test.YtpondkggmcmpfaaGreatDoorBPlanCovers20
import Derived.Test.YtpondkggmcmpfaaGreatDoorBPlanCovers21
import Derived.Test.YtpondkggmcmpfaaGreatDoorBPlanCovers22
import Derived.Test.YtpondkggmcmpfaaGreatDoorBPlanCovers23
import Derived.Test.YtpondkggmcmpfaaGreatDoorBPlanCovers24
import Derived.Test.YtpondkggmcmpfaaGreatDoorBPlanCovers25
import Derived.Test.YtpondkggmcmpfaaGreatDoorBPlanCovers26
import Derived.ProofKit
import Derived.OpenShut
import Derived.ChangeSame
import Derived.LaidMore
import Derived.DataReads
namespace Go.Proofs.YtpondkggmcmpfaaGreatDoor.QA
open Go.RowKit Go.Proofs.YtpondkggmcmpfaaGreatDoorW.PrintWords Go.Proofs.YtpondkggmcmpfaaGreatDoorW.PrintLast Go.Proofs.YtpondkggmcmpfaaGreatDoorW.PrintMore Go.Proofs.YtpondkggmcmpfaaGreatDoor.T
set_option linter.unusedVariables false
set_option linter.unusedSimpArgs false
structure kE (b:Nat) (w w':World):Prop where
  os:w'.os=w.os
  tape:w'.tape=w.tape
  output:w'.output=w.output
  size:w.heap.size≤w'.heap.size
  block:∀ k,k < w.heap.size→k≠b→w'.heap[k]? = w.heap[k]?
theorem kE.refl (b:Nat) (w:World):kE b w w:=⟨rfl,rfl,rfl,Nat.le_refl _,fun _ _ _=>rfl⟩
theorem kE.step {b:Nat} {w w1 w2:World} (h:kE b w w1) (k:Below w1.heap.size w1 w2):kE b w w2:=⟨k.os.trans h.os,k.tape.trans h.tape,k.output.trans h.output,Nat.le_trans h.size k.size,fun i hi hn=>(k.block i (Nat.lt_of_lt_of_le hi h.size)).trans (h.block i hi hn)⟩
theorem kE.low {b:Nat} {w w1 w2:World} (h:kE b w w1) (k:Below w.heap.size w1 w2):kE b w w2:=⟨k.os.trans h.os,k.tape.trans h.tape,k.output.trans h.output,Nat.le_trans h.size k.size,fun i hi hn=>(k.block i hi).trans (h.block i hi hn)⟩
theorem kE.trans {b:Nat} {w w1 w2:World} (h:kE b w w1) (k:kE b w1 w2):kE b w w2:=⟨k.os.trans h.os,k.tape.trans h.tape,k.output.trans h.output,Nat.le_trans h.size k.size,fun i hi hn=>(k.block i (Nat.lt_of_lt_of_le hi h.size) hn).trans (h.block i hi hn)⟩
theorem kE.set {b:Nat} {w w1:World} (h:kE b w w1) (o:Obj):kE b w (ChangeMaps.setBlock w1 b o):=⟨h.os,h.tape,h.output,by rw [adl];exact h.size,fun i hi hn=>(aad w1 b o hn).trans (h.block i hi hn)⟩
theorem kE.below {b:Nat} {w0 w w1:World} (h:kE b w w1) (k:Below w0.heap.size w0 w) (hb:w0.heap.size≤b):Below w0.heap.size w0 w1:=⟨h.os.trans k.os,h.tape.trans k.tape,h.output.trans k.output,Nat.le_trans k.size h.size,fun i hi=>(h.block i (Nat.lt_of_lt_of_le hi k.size) (by omega)).trans (k.block i hi)⟩
theorem kE.back {b:Nat} {w w1:World} (h:kE b w w1) {o:Obj} (hb:w.heap[b]? = some o):Below w.heap.size w (ChangeMaps.setBlock w1 b o):=by
  have hl:b < w.heap.size:=(Array.getElem?_eq_some_iff.1 hb).1
  refine ⟨h.os,h.tape,h.output,by rw [adl];exact h.size,fun k hk => ?_⟩
  by_cases e:k=b
  · subst e;rw [aes _ _ _ (Nat.lt_of_lt_of_le hl h.size),hb]
  · exact (aad w1 b o e).trans (h.block k hk e)
theorem vw {w:World} {b:Nat} {E:Array MapEntry} {n:Nat} {p:Addr} {v:Value} (h:(ChangeMaps.setBlock w b (.map E n)).cell? p=some v):w.cell? p=some v:=by
  by_cases e:p.block=b
  · exfalso
    unfold World.cell? at h
    rw [e] at h
    by_cases hl:b < w.heap.size
    · rw [aes _ _ _ hl] at h;simp at h
    · unfold ChangeMaps.setBlock at h;simp [hl] at h
  · unfold World.cell? at h ⊢
    rwa [aad _ _ _ e] at h
theorem arW (w:World):∃ W1 g,W1=w.alloc (.map #[] 0)∧g=w.heap.size∧W1.heap[g]? = some (.map #[] 0)∧Below w.heap.size w W1:=⟨_,_,rfl,rfl,heap_alloc_new w _,aT (Below.refl _ _) _⟩
theorem ata (w:World) (v0 v1 v2 v3:Value):∃ W1 g,W1=w.alloc (.cells #[v0,v1,v2,v3] 56)∧g=w.heap.size∧W1.heap[g]? = some (.cells #[v0,v1,v2,v3] 56 (0,0))∧Below w.heap.size w W1:=⟨_,_,rfl,rfl,heap_alloc_new w _,aT (Below.refl _ _) _⟩
theorem alA {w:World} {g t:Nat} {v0 v1 v2 v3:Value} (h:w.heap[g]? = some (.cells #[v0,v1,v2,v3] t (0,0))):w.cell? ⟨g,0,none⟩=some v0∧w.cell? ⟨g,1,none⟩=some v1∧w.cell? ⟨g,2,none⟩=some v2∧w.cell? ⟨g,3,none⟩=some v3 :=
  ⟨(au h 0).trans rfl,(au h 1).trans rfl,(au h 2).trans rfl,(au h 3).trans rfl⟩
set_option maxHeartbeats 8000000 in
set_option maxRecDepth 100000 in
theorem afo (o:S47) (A4:Option Addr) (c4:Nat) (A5:Option Addr) (c5:Nat) (wd ht tw th x y:Int) (hw:0≤wd∧wd≤255) (hh:0≤ht∧ht≤255) (htw:0≤tw∧tw≤255) (hth:0≤th∧th≤255) (w:World) (hG:GL w) (hI:opI o) (hx:Kd.C (Kd.int .i64) w A4 o.f4.length o.f4) (lx:o.f4.length≤c4) (hy:Kd.C (Kd.int .i64) w A5 o.f5.length o.f5) (ly:o.f5.length≤c5) :
    Calls Tryz.prog 7 #[opV o.f0 o.f1 o.f2 o.f3 A4 o.f4.length c4 A5 o.f5.length c5 o.f6 o.f7 o.f8,.int .u8 wd,.int .u8 ht,.int .u8 tw,.int .u8 th,.int .i64 x,.int .i64 y] w fun e w'=>e = .returned (.bool true)∧Below w.heap.size w w':=by
  have LV:=aj.mk (fun w' (hb:Below w.heap.size w w')=>aiQ w' (hG.below hb))
  have SG:=aj.mk (fun w' (hb:Below w.heap.size w w')=>aky o A4 c4 A5 c5 wd ht hw hh w' (hG.below hb) hI (Kd.bY hx hb) lx (Kd.bY hy hb) ly)
  have PL:=aj.mk (awk (o:=o) hw.1 hh.1 hI)
  unfold am8 am9 at SG
  obtain ⟨tx,htx⟩:∃ x,x=nR o (1+wd % 20):=⟨_,rfl⟩
  obtain ⟨ty,hty⟩:∃ x,x=nS o (1+ht % 20):=⟨_,rfl⟩
  rw [← htx,← hty] at SG PL
  obtain ⟨C,hC⟩:∃ C,C=(yC [o] 20=true∧je o (1+wd % 20) (1+ht % 20)=0):=⟨_,rfl⟩
  obtain ⟨l1,hl1⟩:∃ l,l=tx.lines.map toR:=⟨_,rfl⟩
  obtain ⟨l2,hl2⟩:∃ l,l=ty.lines.map toR:=⟨_,rfl⟩
  obtain ⟨p,hp⟩:∃ x,x=o.f4.length:=⟨_,rfl⟩
  obtain ⟨q,hq⟩:∃ x,x=o.f5.length:=⟨_,rfl⟩
  rw [← hl1,← hl2,← hp,← hq] at SG
  rw [← hp,← hq]
  have hCd:C∨¬ C:=Classical.em _
  rw [← hC] at PL
  have SG2:aj ((C→∀ w',Below w.heap.size w w'→_)∧(¬ C→∀ w',Below w.heap.size w w'→_)):=⟨fun h w' hb=>by have:=SG.out w' hb;rw [if_pos (by rw [← hC];exact h)] at this;exact this,fun h w' hb=>by have:=SG.out w' hb;rw [if_neg (by rw [← hC];exact h)] at this;exact this⟩
  have L12:=aj.mk (And.intro hl1 hl2)
  clear SG hG hI hx lx hy ly htx hty hC hl1 hl2 hp hq
  obtain ⟨k,b,s,r,x4,x5,f,ow,oh⟩:=o
  simp only at *
  obtain ⟨W1,g,e1,hg,h1,hb1⟩:=as8 w (.int .i64 k) (.int .i64 b) (.int .i64 s) (.int .i64 r) (.slice A4 p c4) (.slice A5 q c5) (.int .i64 f) (.int .i64 ow) (.int .i64 oh)
  have E1:=aj.mk e1
  have EG:=aj.mk hg
  have H1:=aj.mk h1
  have BX:=aj.mk hb1
  clear e1 hg h1 hb1
  have mixed:Tryz.prog.follows .mixedOrders=true:=by kernel_rfl
  unfold opV at *
  rcases hCd with hC|hC
  rotate_left
  · have SG:=aj.mk (SG2.out.2 hC)
    clear SG2 PL hC
    go_enter Tryz.func7,Tryz.ntmps7
    go_upto_region 1 with fail
    rw [← EG.out,← E1.out]
    go_upto_region 3 with (go_at_call 18;(with_reducible refine (LV.out _ BX.out).mono ?_);rintro e w2 ⟨rfl,hb1⟩;have B2:=aj.mk (ak BX.out hb1);have H2:=aj.mk (ay H1.out hb1);clear hb1)
    obtain ⟨z0,z1,z2,z3,z4,z5,z6,z7,z8⟩:=cells9 H2.out
    go_wp2_with (go_at_call 19;(with_reducible refine (SG.out _ B2.out).mono ?_);rintro e w3 ⟨hb1,rfl⟩;have B3:=aj.mk (ak B2.out hb1);clear hb1)
    go_ret
    exact ⟨rfl,aT (aT B3.out _) _⟩
  have SG:=aj.mk (SG2.out.1 hC)
  have PW:=PL.out hC
  clear SG2 PL hC
  have PB:=aj.mk (PW.B (a:=1+tw % 24) (b:=1+th % 24) (by omega) (by omega) (by omega) (by omega))
  obtain ⟨n,hn,n4⟩:=PW.n (a:=1+tw % 24) (b:=1+th % 24) (by omega) (by omega)
  have HNN:=aj.mk hn
  have HNB:=aj.mk PW
  have ha:=aj.mk (show 1≤1+tw % 24∧1+tw % 24≤4096 by omega)
  have hb:=aj.mk (show 1≤1+th % 24∧1+th % 24≤4096 by omega)
  clear hn PW
  go_enter Tryz.func7,Tryz.ntmps7
  go_upto_region 1 with fail
  rw [← EG.out,← E1.out]
  go_upto_region 3 with (go_at_call 18;(with_reducible refine (LV.out _ BX.out).mono ?_);rintro e w2 ⟨rfl,hb1⟩;have B2:=aj.mk (ak BX.out hb1);have H2:=aj.mk (ay H1.out hb1);clear hb1)
  obtain ⟨z0,z1,z2,z3,z4,z5,z6,z7,z8⟩:=cells9 H2.out
  go_upto_region 4 with (go_at_call 19;(with_reducible refine (SG.out _ B2.out).mono ?_);rintro e w3 ⟨hb1,bx,bz,A1,k1,A2,k2,rfl,tx3,ty3,m1,g1,m2,g2⟩;have B3:=aj.mk (ak B2.out hb1);have X3:=aj.mk tx3;have Y3:=aj.mk ty3;have M3:=aj.mk (And.intro m1 (And.intro g1 (And.intro m2 g2)));clear hb1 tx3 ty3 m1 g1 m2 g2)
  clear z0 z1 z2 z3 z4 z5 z6 z7 z8
  obtain ⟨W5,gs,e5,hgs,h5,hb5⟩:=as9 w3 (.pointer (some ⟨bx,0,none⟩)) (.pointer (some ⟨bz,0,none⟩)) (.int .i64 b) (.slice A1 l1.length k1) (.slice A2 l2.length k2) (.int .i64 (1+wd % 20)) (.int .i64 (1+ht % 20)) (.int .i64 b)
  rw [← hgs,← e5]
  have B5:=aj.mk (ak B3.out hb5)
  have X5:=aj.mk (X3.out.below hb5)
  have Y5:=aj.mk (Y3.out.below hb5)
  have S5:=aj.mk h5
  clear e5 hgs h5 hb5 X3 Y3 B3 H2 B2 LV SG M3
  obtain ⟨s0,s1,s2⟩:=cells3 S5.out
  go_upto_region 9 with (go_at_call 20;(with_reducible refine (an0 bx bz b (1+tw % 24) (1+th % 24) W5 ha.out hb.out).mono ?_);rintro e w6 ⟨hb1,bp,rfl,hp4⟩;have B6:=aj.mk (ak B5.out hb1);have X6:=aj.mk (X5.out.below hb1);have Y6:=aj.mk (Y5.out.below hb1);have S6:=aj.mk (ay S5.out hb1);have HP:=aj.mk (show qM w6 bp bx bz b (1+tw % 24) (1+th % 24) tx ty from ⟨hp4,X5.out.below hb1,Y5.out.below hb1⟩);clear hb1 hp4)
  clear s0 s1 s2 B5 X5 Y5 S5
  obtain ⟨a,hav⟩:∃ a,a=1+tw % 24:=⟨_,rfl⟩
  obtain ⟨bb,hbv⟩:∃ a,a=1+th % 24:=⟨_,rfl⟩
  rw [← hav,← hbv] at HNN PB HP
  have a1:1≤a∧a≤24:=by omega
  have b1:1≤bb∧bb≤24:=by omega
  clear hav hbv ha hb
  obtain ⟨nx,hnx⟩:∃ v:Int,v=tx.lines.length:=⟨_,rfl⟩
  obtain ⟨ny,hny⟩:∃ v:Int,v=ty.lines.length:=⟨_,rfl⟩
  have N1:1≤nx∧nx≤20:=by have:=HNB.out.x1;have:=HNB.out.x2;omega
  have N2:1≤ny∧ny≤20:=by have:=HNB.out.y1;have:=HNB.out.y2;omega
  have HNX:=aj.mk hnx
  have HNY:=aj.mk hny
  have TX8:=aj.mk (fun n=>lY bx tx (w6.drewN n) (X6.out.below (aI (Below.refl _ _) n)))
  have TY8:=aj.mk (fun n=>lY bz ty (w6.drewN n) (Y6.out.below (aI (Below.refl _ _) n)))
  rw [← hnx] at TX8
  rw [← hny] at TY8
  clear hnx hny
  obtain ⟨s0,s1,s2⟩:=cells3 S6.out
  go_quiet (first
    | (go_at_call 22;exact Calls.quiet_of_same (TX8.out _))
    | (go_at_call 22;exact Calls.quiet_of_same (TY8.out _)))
  have BQ:=aj.mk (aI (Below.refl w6.heap.size w6) nq)
  have B7:=aj.mk (ak B6.out BQ.out)
  have HP7:=aj.mk (HP.out.below BQ.out)
  generalize w6.drewN nq=w7 at B7 HP7 BQ ⊢
  clear s0 s1 s2 TX8 TY8 B6 X6 Y6 S6 HP BQ
  have hmm := @run_makeMap Tryz.prog
  go_upto_region 11 with fail
  clear hmm
  obtain ⟨W7,bm,e7,hbm,h7,hb7⟩:=arW w7
  rw [← hbm,← e7]
  have BM:=aj.mk (show w7.heap.size≤bm by rw [hbm];exact Nat.le_refl _)
  have B8:=aj.mk hb7
  have HP8:=aj.mk (HP7.out.below hb7)
  have M8:=aj.mk h7
  clear e7 hbm h7 hb7
  go_wp2_with (go_at_call 21;(with_reducible refine (ahV bp bx bz b a bb tx ty n W7 HP8.out PB.out HNN.out (by omega)).mono ?_);rintro e w8 ⟨hb1,A,c,rfl,hc,hC⟩;have B9:=aj.mk (ak B8.out hb1);have M9:=aj.mk (ay M8.out hb1);have HC:=aj.mk hC;clear hb1 hC)
  clear B8 HP8 M8
  obtain ⟨cs,hcs⟩:∃ u,u=dh tx.lines.length a:=⟨_,rfl⟩
  have HCS:=aj.mk hcs
  clear hcs
  go_loopg [75] n (fun kx s75 wr=>∃ (i m:Nat),s75 = .int .i64 i∧i≤n∧n - i≤kx∧aj ((m:Int)=aeu tx ty a bb i)∧aj (kE bm w8 wr)∧aj (xk wr bm m (PT cs a bb (jO tx a i) (jP tx a bb i) i 0 0)))
  case atStart=>exact ⟨0,0,rfl,by omega,by omega,⟨an9.symm⟩,⟨kE.refl _ _⟩,⟨⟨[],M9.out,rfl,by simp,by simp,by simp,by simp⟩⟩⟩
  case round =>
    obtain ⟨i,m,rfl,i1,i2,HM,HX,HN⟩:=hrel
    have wi:IntKind.i64.wrap ((i:Int)+1)=(i:Int)+1:=by rw [kU];exact aC (by omega) (by omega)
    by_cases hlt:(i:Int) < (n:Int)
    rotate_left
    · have him:i=n:=by omega
      subst him
      clear hlt i1 i2 wi
      have he:(m:Int)=nx*ny:=by rw [HM.out,HNN.out,ap2 PB.out,HNX.out,HNY.out]
      obtain ⟨w9,hrun,⟨cnt,hr⟩,hn,hb⟩:=an7 HN.out
      have HR:=aj.mk hr
      have HN9:=aj.mk hn
      have X9:=aj.mk (HX.out.step hb)
      have GR:=aj.mk (show w7.heap.size≤wr.heap.size from Nat.le_trans B9.out.size HX.out.size)
      obtain ⟨r,hre⟩:∃ r,r=wr.heap.size:=⟨_,rfl⟩
      rw [← hre] at hrun HR GR
      have LT:=aj.mk (show w8.heap.size≤r by rw [hre];exact HX.out.size)
      clear hr hn hb hre
      go_wp2
      clear hrun
      go_loopg [31] cnt (fun kx s31 wz=>∃ (c:Nat),c≤kx∧aj (am6 wz bm r m c)∧aj (wz.heap[bm]? = w9.heap[bm]?)∧aj (kE bm w8 wz))
      case atStart=>exact ⟨cnt,Nat.le_refl _,HR,⟨rfl⟩,X9⟩
      case round =>
        obtain ⟨c,c1,HRz,HEz,HXz⟩:=hrel
        rcases ap1 HRz.out 0 with hrun|⟨x',y',w',c',hrun,hen,hr',hlt,atb,hbl⟩
        · have HNz:=aj.mk (HN9.out.at HEz.out)
          have hlen:=aly HNz.out
          have HPz:=aj.mk (HP7.out.below (HXz.out.below B9.out BM.out))
          have BZ:=aj.mk (ak B7.out (HXz.out.below B9.out BM.out))
          have hm0:0≤nx*ny:=Int.mul_nonneg (by omega) (by omega)
          have hm1:nx*ny≤20*20:=Int.le_trans (Int.mul_le_mul_of_nonneg_right N1.2 (by omega)) (Int.mul_le_mul_of_nonneg_left N2.2 (by decide))
          have wm:IntKind.i64.wrap (nx*ny)=nx*ny:=by rw [kU];exact aC (by omega) (by omega)
          have hq:((m:Int) == nx*ny)=true:=by rw [he];simp
          clear hm0 hm1
          have FO:=aj.mk (fun hx=>ap3 bp bx bz b a bb tx ty x y wr HPz.out hx)
          have FI:=aj.mk (fun h0 h1 h2 h3=>alz bp bx bz b a bb tx ty x y wr HPz.out PB.out h0 h1 h2 h3)
          rw [← HNX.out,← HNY.out] at FO FI
          by_cases x0:0≤x
          rotate_left
          · have d0:decide (0≤x)=false:=decide_eq_false x0
            have F:=aj.mk (FO.out (.inl (by omega)))
            clear FO FI
            go_wp2_with (go_at_call 31;(with_reducible refine F.out.mono ?_);rintro e w1 ⟨rfl,rfl⟩)
            go_ret
            exact ⟨rfl,BZ.out⟩
          have d0:decide (0≤x)=true:=decide_eq_true x0
          by_cases x1:x < nx
          rotate_left
          · have d1:decide (x < nx)=false:=decide_eq_false x1
            have F:=aj.mk (FO.out (.inr (.inl (by omega))))
            clear FO FI
            go_wp2_with (go_at_call 31;(with_reducible refine F.out.mono ?_);rintro e w1 ⟨rfl,rfl⟩)
            go_ret
            exact ⟨rfl,BZ.out⟩
          have d1:decide (x < nx)=true:=decide_eq_true x1
          by_cases y0:0≤y
          rotate_left
          · have d2:decide (0≤y)=false:=decide_eq_false y0
            have F:=aj.mk (FO.out (.inr (.inr (.inl (by omega)))))
            clear FO FI
            go_wp2_with (go_at_call 31;(with_reducible refine F.out.mono ?_);rintro e w1 ⟨rfl,rfl⟩)
            go_ret
            exact ⟨rfl,BZ.out⟩
          have d2:decide (0≤y)=true:=decide_eq_true y0
          by_cases y1:y < ny
          rotate_left
          · have d3:decide (y < ny)=false:=decide_eq_false y1
            have F:=aj.mk (FO.out (.inr (.inr (.inr (by omega)))))
            clear FO FI
            go_wp2_with (go_at_call 31;(with_reducible refine F.out.mono ?_);rintro e w1 ⟨rfl,rfl⟩)
            go_ret
            exact ⟨rfl,BZ.out⟩
          have d3:decide (y < ny)=true:=decide_eq_true y1
          have F:=aj.mk (FI.out x0 x1 y0 y1)
          have hlen':∀ k ty,(Builtin.len_ #[75] ty #[.map (some bm)]).run Tryz.prog (wr.drewN k) = .ok (.int .i64 (m:Int)) (wr.drewN k):=fun k ty=>aly (HNz.out.at (by rw [World.heap_drewN])) ty
          clear FO FI hlen
          go_wp2_with (go_at_call 31;(with_reducible refine F.out.mono ?_);rintro e w1 ⟨rfl,⟨⟨nd,rfl⟩⟩⟩)
          go_ret
          exact ⟨rfl,aI BZ.out nd⟩
        · have HR':=aj.mk hr'
          have HE':=aj.mk (atb.trans HEz.out)
          have HX':=aj.mk (HXz.out.low (hbl _ LT.out))
          clear hr' atb hbl
          unfold rcV at hrun hen
          go_wp2
          go_roundg c'
          case measure=>omega
          case rel=>exact ⟨c',Nat.le_refl _,HR',HE',HX'⟩
    have p1:(0≤(i:Int)):=by omega
    have q0:i < n:=by omega
    have xb:=adi (i:=(i:Int)) PB.out
    have yb:=adk (i:=(i:Int)) PB.out (by omega) (by rw [← HNN.out];omega)
    have CT:=aj.mk (aoa (i:=(i:Int)) PB.out (by omega) (by rw [← HNN.out];omega))
    have FT:=aj.mk (fun dx dy (x0:0≤dx) (x1:dx < a) (y0:0≤dy) (y1:dy < bb)=>an8 (i:=(i:Int)) PB.out x0 x1 y0 y1)
    rw [← HNX.out] at xb
    rw [← HNY.out] at yb
    rw [← HCS.out] at FT
    obtain ⟨ad,e0,YS⟩:=asi (Kd.bY HC.out (HX.out.back M9.out)) (i:Int) p1 hlt
    subst e0
    obtain ⟨y0,y1,y2,y3,y4,y5,y6,y7,y8,y9⟩:=YS
    rw [Int.toNat_natCast,apY _ _ _ _ q0] at y0 y1 y2 y3 y4 y5 y6 y7 y8 y9
    replace y0:=vw y0
    replace y1:=vw y1
    replace y2:=vw y2
    replace y3:=vw y3
    replace y4:=vw y4
    replace y5:=vw y5
    replace y6:=vw y6
    replace y7:=vw y7
    replace y8:=vw y8
    replace y9:=vw y9
    obtain ⟨X,hX⟩:∃ v,v=jO tx a i:=⟨_,rfl⟩
    obtain ⟨Y,hY⟩:∃ v,v=jP tx a bb i:=⟨_,rfl⟩
    obtain ⟨Wd,hWd⟩:∃ v,v=outW tx a i:=⟨_,rfl⟩
    obtain ⟨Ht,hHt⟩:∃ v,v=pX tx ty a bb i:=⟨_,rfl⟩
    rw [← hX] at xb
    rw [← hY] at yb
    rw [← hX,← hY] at HN FT
    rw [← hWd,← hHt] at CT
    have gW:1≤Wd∧X+Wd≤nx∧Wd≤a:=by rw [hWd,outW,← hX,← HNX.out];omega
    have gH:1≤Ht∧Y+Ht≤ny∧Ht≤bb:=by rw [hHt,pX,← hY,← HNY.out];omega
    unfold agY at y0 y1 y2 y3 y4 y5 y6 y7 y8 y9
    simp only at y0 y1 y2 y3 y4 y5 y6 y7 y8 y9
    rw [← hX,← hWd] at y5 y7
    rw [← hY,← hHt] at y6 y8
    rw [← hX] at y1
    rw [← hY] at y2
    rw [← hWd] at y3
    rw [← hHt] at y4
    obtain ⟨r1,h1⟩:∃ v,v=(dF tx X (X+Wd)).1:=⟨_,rfl⟩
    obtain ⟨r3,h3⟩:∃ v,v=(dF tx X (X+Wd)).2:=⟨_,rfl⟩
    obtain ⟨r2,h2⟩:∃ v,v=(dF ty Y (Y+Ht)).1:=⟨_,rfl⟩
    obtain ⟨r4,h4⟩:∃ v,v=(dF ty Y (Y+Ht)).2:=⟨_,rfl⟩
    obtain ⟨mo,hmo⟩:∃ v,v=ty.most:=⟨_,rfl⟩
    rw [← h1] at y5
    rw [← h3] at y7
    rw [← h2] at y6
    rw [← h4] at y8
    rw [← hmo] at y9
    clear hX hY hWd hHt h1 h2 h3 h4 hmo
    go_upto_region 14 with fail
    obtain ⟨W8,gt,e8,hgt,h8,hb8⟩:=ap5 wr (.int .i64 i) (.int .i64 X) (.int .i64 Y) (.int .i64 Wd) (.int .i64 Ht) (.int .i64 r1) (.int .i64 r2) (.int .i64 r3) (.int .i64 r4) (.int .i64 mo)
    rw [← hgt,← e8]
    have X8:=aj.mk (HX.out.step hb8)
    have N8:=aj.mk (HN.out.at (hb8.block bm HN.out.lt))
    have GB:=aj.mk (show gt≠bm by rw [hgt];have:=HN.out.lt;omega)
    have HT:=aj.mk h8
    clear e8 hgt h8 hb8 y0 y1 y2 y3 y4 y5 y6 y7 y8 y9
    obtain ⟨y0,y1,y2,y3,y4,y5,y6,y7,y8,y9⟩:=abh HT.out
    have dW:decide (Wd < 1)=false:=decide_eq_false (by omega)
    have nW:¬ Wd < 1:=by omega
    have dH:decide (Ht < 1)=false:=decide_eq_false (by omega)
    have nH:¬ Ht < 1:=by omega
    go_wp2
    clear y0 y1 y2 y3 y4 y5 y6 y7 y8 y9 dW nW dH nH
    go_loopg [92] (Wd.toNat) (fun ky s92 wz=>∃ (j:Int) (m1:Nat),s92 = .int .i64 j∧0≤j∧j≤Wd∧Wd - j≤ky∧aj ((m1:Int)=m+j*Ht)∧aj (kE bm W8 wz)∧aj (xk wz bm m1 (PT cs a bb X Y i j 0)))
    case atStart=>exact ⟨0,m,rfl,by omega,by omega,by omega,⟨by rw [Int.zero_mul,Int.add_zero]⟩,⟨kE.refl _ _⟩,N8⟩
    case round =>
      obtain ⟨j,m1,rfl,j0,j1,j2,HMj,HXj,HNj⟩:=hrel
      have wj:IntKind.i64.wrap (j+1)=j+1:=by rw [kU];exact aC (by omega) (by omega)
      have HTj:=aj.mk ((HXj.out.block gt (dJ HT.out) GB.out).trans HT.out)
      obtain ⟨y0,y1,y2,y3,y4,y5,y6,y7,y8,y9⟩:=abh HTj.out
      by_cases hlj:j < Wd
      rotate_left
      · have hje:j=Wd:=by omega
        have hjd:decide (j < Wd)=false:=decide_eq_false hlj
        go_wp2
        go_roundg (n - (i+1))
        case measure=>omega
        case rel=>exact ⟨i+1,m1,by simp,by omega,Nat.le_refl _,⟨by rw [HMj.out,hje,HM.out];push_cast;exact CT.out⟩,⟨X8.out.trans HXj.out⟩,⟨HNj.out.mono (fun x y h=>by unfold PT at h ⊢;push_cast;omega)⟩⟩
      have hjd:decide (j < Wd)=true:=decide_eq_true hlj
      go_wp2
      clear y0 y1 y2 y3 y4 y5 y6 y7 y8 y9
      go_loopg [98] (Ht.toNat) (fun kz s98 wy=>∃ (v:Int) (m2:Nat),s98 = .int .i64 v∧0≤v∧v≤Ht∧Ht - v≤kz∧aj ((m2:Int)=m1+v)∧aj (kE bm W8 wy)∧aj (xk wy bm m2 (PT cs a bb X Y i j v)))
      case atStart=>exact ⟨0,m1,rfl,by omega,by omega,by omega,⟨by omega⟩,HXj,HNj⟩
      case round =>
        obtain ⟨v,m2,rfl,v0,v1,v2,HMv,HXv,HNv⟩:=hrel
        have wv:IntKind.i64.wrap (v+1)=v+1:=by rw [kU];exact aC (by omega) (by omega)
        have HTv:=aj.mk ((HXv.out.block gt (dJ HT.out) GB.out).trans HT.out)
        obtain ⟨y0,y1,y2,y3,y4,y5,y6,y7,y8,y9⟩:=abh HTv.out
        by_cases hlv:v < Ht
        rotate_left
        · have hve:v=Ht:=by omega
          have hvd:decide (v < Ht)=false:=decide_eq_false hlv
          go_wp2
          go_roundg (Wd - (j+1)).toNat
          case measure=>omega
          case rel=>exact ⟨j+1,m2,rfl,by omega,by omega,by omega,⟨by rw [HMv.out,HMj.out,hve,Int.add_mul];omega⟩,HXv,⟨HNv.out.mono (fun x y h=>by unfold PT at h ⊢;omega)⟩⟩
        have hvd:decide (v < Ht)=true:=decide_eq_true hlv
        have wxj:IntKind.i64.wrap (X+j)=X+j:=by rw [kU];exact aC (by omega) (by omega)
        have wyv:IntKind.i64.wrap (Y+v)=Y+v:=by rw [kU];exact aC (by omega) (by omega)
        have FF:=aj.mk (FT.out j v j0 (by omega) v0 (by omega))
        go_upto_region 23 with fail
        obtain ⟨W9,gc,e9,hgc,h9,hb9⟩:=ata wr (.int .i64 (X+j)) (.int .i64 (Y+v)) (.int .i64 0) (.int .i64 0)
        rw [← hgc,← e9]
        have X9:=aj.mk (HXv.out.step hb9)
        have N9:=aj.mk (HNv.out.at (hb9.block bm HNv.out.lt))
        have T9:=aj.mk (ay HTv.out hb9)
        have C9:=aj.mk h9
        have GC:=aj.mk (show gc≠bm by rw [hgc];have:=HNv.out.lt;omega)
        clear e9 hgc h9 hb9 y0 y1 y2 y3 y4 y5 y6 y7 y8 y9
        obtain ⟨y0,y1,y2,y3,y4,y5,y6,y7,y8,y9⟩:=abh T9.out
        obtain ⟨z0,z1,z2,z3⟩:=alA C9.out
        have FI:=aj.mk (alz bp bx bz b a bb tx ty (X+j) (Y+v) W9 (HP7.out.below ((X8.out.trans X9.out).below B9.out BM.out)) PB.out (by omega) (by rw [← HNX.out];omega) (by omega) (by rw [← HNY.out];omega))
        rw [← HCS.out,FF.out] at FI
        go_upto_region 24 with (go_at_call 31;(with_reducible refine FI.out.mono ?_);rintro e w10 ⟨rfl,⟨⟨nd,rfl⟩⟩⟩)
        have bd9:=aI (Below.refl W9.heap.size W9) nd
        have XA:=aj.mk (X9.out.step bd9)
        have NA:=aj.mk (N9.out.at (bd9.block bm N9.out.lt))
        have TA:=aj.mk (ay T9.out bd9)
        have CA:=aj.mk (ay C9.out bd9)
        generalize W9.drewN nd=WA at XA NA TA CA ⊢
        clear bd9 y0 y1 y2 y3 y4 y5 y6 y7 y8 y9 z0 z1 z2 z3 FI X9 N9 T9 C9
        obtain ⟨y0,y1,y2,y3,y4,y5,y6,y7,y8,y9⟩:=abh TA.out
        obtain ⟨z0,z1,z2,z3⟩:=alA CA.out
        have f0:((i:Int) != (i:Int))=false:=by simp
        have f1:decide (X+j < 0)=false:=decide_eq_false (by omega)
        have f2:decide (nx≤X+j)=false:=decide_eq_false (by omega)
        have f3:decide (Y+v < 0)=false:=decide_eq_false (by omega)
        have f4:decide (ny≤Y+v)=false:=decide_eq_false (by omega)
        have g1:¬ X+j < 0:=by omega
        have g2:¬ nx≤X+j:=by omega
        have g3:¬ Y+v < 0:=by omega
        have g4:¬ ny≤Y+v:=by omega
        go_upto_region 26 with fail
        obtain ⟨o1,o2,L0,ME,L1,ES,CN⟩:=ap0 (x:=X+j) (y:=Y+v) NA.out (by unfold PT;rw [FF.out];omega)
        unfold rcV at L0 ME L1
        have ml:bm < WA.heap.size:=NA.out.lt
        obtain ⟨U1,hU1⟩:∃ u,u=ChangeMaps.setBlock WA.drew bm o1:=⟨_,rfl⟩
        have e1:U1.heap[bm]? = some o1:=by rw [hU1];exact aes _ _ _ ml
        have R0:=L0 WA.drew rfl
        have R1:=ME WA.drew rfl
        rw [← hU1] at R1
        have R2:=L1 U1 e1
        obtain ⟨U2,hU2⟩:∃ u,u=ChangeMaps.setBlock U1 bm o2:=⟨_,rfl⟩
        have R3:=ES U1 e1
        rw [← hU2] at R3
        have NU:=aj.mk (CN U2 (by rw [hU2];refine aes _ _ _ ?_;rw [hU1,adl];exact ml))
        have XU:=aj.mk (show kE bm W8 U2 by rw [hU2,hU1];exact ((XA.out.step (bg (Below.refl _ _))).set o1).set o2)
        have TU:=aj.mk (show U2.heap[gt]? = some (.cells #[.int .i64 i,.int .i64 X,.int .i64 Y,.int .i64 Wd,.int .i64 Ht,.int .i64 r1,.int .i64 r2,.int .i64 r3,.int .i64 r4,.int .i64 mo] 58 (0,0)) by rw [hU2,aad _ _ _ GB.out,hU1,aad _ _ _ GB.out];exact TA.out)
        clear L0 ME L1 ES CN hU1 hU2 e1 ml
        go_region
        all_goals (
          go_wp2
          go_roundg (Ht - (v+1)).toNat
          case measure=>omega
          case rel=>exact ⟨v+1,m2+1,rfl,by omega,by omega,by omega,⟨by push_cast;have:=HMv.out;omega⟩,XU,⟨NU.out.mono (fun x y h=>by rcases h with h|⟨rfl,rfl⟩;(unfold PT at h ⊢;omega);(unfold PT;rw [FF.out];omega))⟩⟩)
end Go.Proofs.YtpondkggmcmpfaaGreatDoor.QA
namespace Go.Proofs.YtpondkggmcmpfaaGreatDoor.QA
open Go.RowKit Go.Proofs.YtpondkggmcmpfaaGreatDoorW.PrintWords Go.Proofs.YtpondkggmcmpfaaGreatDoorW.PrintLast Go.Proofs.YtpondkggmcmpfaaGreatDoorW.PrintMore Go.Proofs.YtpondkggmcmpfaaGreatDoor.T
set_option linter.unusedVariables false
set_option linter.unusedSimpArgs false
section
open Go.ChangeShapes Go.WideShapes Go.ChangeAt
variable {H:Type} {enc:TypeId × Value→H} {W:World} {fuel:Nat} {cs:List Value} {x:DataW H × List MemPlace}
theorem ais (h:DataW.trod enc Tryz.prog W 0 (fun _=>true) true fuel 44 cs=some x):∃ (A:Option Addr) (l:List Int) (c:Nat),cs=[.slice A l.length c]∧l.length≤c∧Kd.C (Kd.int .i64) W A l.length l∧∀ z ∈ l,I64 z:=by
  rcases open_ints Tryz.underlying44 Tryz.underlying2 (by kernel_rfl) h with ⟨hcs,_⟩|⟨a,len,cap,zs,hcs,_,hl,hm,hz,_,hcell,hwz⟩
  · exact ⟨none,[],0,hcs,by decide,adP W,by simp⟩
  · have hz:zs.length=cap:=by simpa using hz
    obtain ⟨l,e,h1,h2,h3,h4⟩:=uy.asa (k := .i64) (w:=W) (a:=some a) (len:=len) (cap:=cap) (zs:=zs) (.inr ⟨a,rfl,hl,hm,hz,hcell,hwz⟩)
    subst e
    exact ⟨some a,l,cap,hcs,h4,Kd.alO (d:=(0:Int)) (h1:=fun _=>rfl) h1,fun z hz=>T.wf64 (h3 z hz)⟩
set_option maxRecDepth 100000 in
theorem arX (h:DataW.trod enc Tryz.prog W 0 (fun _=>true) true fuel 47 cs=some x):∃ o:S47,k47.K W o cs∧opI o:=by
  obtain ⟨xs,n,_,rfl,hl,hlen,hf⟩:=DataW.trod_struct Tryz.underlying47 h
  have hl9:cs.length=9:=hl.trans (by kernel_rfl)
  match cs,hl9 with
  | [u0,u1,u2,u3,u4,u5,u6,u7,u8],_ =>
  match xs,hlen with
  | [y0,y1,y2,y3,y4,y5,y6,y7,y8],_ =>
  have c0:Tryz.prog.cellsOf 43=1:=by kernel_rfl
  have c1:Tryz.prog.cellsOf 36=1:=by kernel_rfl
  have c2:Tryz.prog.cellsOf 2=1:=by kernel_rfl
  have c3:Tryz.prog.cellsOf 3=1:=by kernel_rfl
  have c4:Tryz.prog.cellsOf 44=1:=by kernel_rfl
  have c6:Tryz.prog.cellsOf 45=1:=by kernel_rfl
  have g0:DataW.trod enc Tryz.prog W 0 (fun _=>true) true n 43 (([u0,u1,u2,u3,u4,u5,u6,u7,u8].drop 0).take (Tryz.prog.cellsOf 43))=some y0:=hf 0 _ rfl
  have g1:DataW.trod enc Tryz.prog W 0 (fun _=>true) true n 36 (([u0,u1,u2,u3,u4,u5,u6,u7,u8].drop 1).take (Tryz.prog.cellsOf 36))=some y1:=hf 1 _ rfl
  have g2:DataW.trod enc Tryz.prog W 0 (fun _=>true) true n 2 (([u0,u1,u2,u3,u4,u5,u6,u7,u8].drop 2).take (Tryz.prog.cellsOf 2))=some y2:=hf 2 _ rfl
  have g3:DataW.trod enc Tryz.prog W 0 (fun _=>true) true n 3 (([u0,u1,u2,u3,u4,u5,u6,u7,u8].drop 3).take (Tryz.prog.cellsOf 3))=some y3:=hf 3 _ rfl
  have g4:DataW.trod enc Tryz.prog W 0 (fun _=>true) true n 44 (([u0,u1,u2,u3,u4,u5,u6,u7,u8].drop 4).take (Tryz.prog.cellsOf 44))=some y4:=hf 4 _ rfl
  have g5:DataW.trod enc Tryz.prog W 0 (fun _=>true) true n 44 (([u0,u1,u2,u3,u4,u5,u6,u7,u8].drop 5).take (Tryz.prog.cellsOf 44))=some y5:=hf 5 _ rfl
  have g6:DataW.trod enc Tryz.prog W 0 (fun _=>true) true n 45 (([u0,u1,u2,u3,u4,u5,u6,u7,u8].drop 6).take (Tryz.prog.cellsOf 45))=some y6:=hf 6 _ rfl
  have g7:DataW.trod enc Tryz.prog W 0 (fun _=>true) true n 3 (([u0,u1,u2,u3,u4,u5,u6,u7,u8].drop 7).take (Tryz.prog.cellsOf 3))=some y7:=hf 7 _ rfl
  have g8:DataW.trod enc Tryz.prog W 0 (fun _=>true) true n 3 (([u0,u1,u2,u3,u4,u5,u6,u7,u8].drop 8).take (Tryz.prog.cellsOf 3))=some y8:=hf 8 _ rfl
  simp only [c0,c1,c2,c3,c4,c6] at g0 g1 g2 g3 g4 g5 g6 g7 g8
  simp [List.drop,List.take] at g0 g1 g2 g3 g4 g5 g6 g7 g8
  obtain ⟨v0,e0,_,w0⟩:=DataW.trod_int Tryz.underlying43 g0
  obtain ⟨v1,e1,_,w1⟩:=DataW.trod_int Tryz.underlying36 g1
  obtain ⟨v2,e2,_,w2⟩:=DataW.trod_int Tryz.underlying2 g2
  obtain ⟨v3,e3,_,w3⟩:=DataW.trod_int Tryz.underlying3 g3
  obtain ⟨A4,l4,k4,e4,m4,r4,w4⟩:=ais g4
  obtain ⟨A5,l5,k5,e5,m5,r5,w5⟩:=ais g5
  obtain ⟨v6,e6,_,w6⟩:=DataW.trod_int Tryz.underlying45 g6
  obtain ⟨v7,e7,_,w7⟩:=DataW.trod_int Tryz.underlying3 g7
  obtain ⟨v8,e8,_,w8⟩:=DataW.trod_int Tryz.underlying3 g8
  simp only [List.cons.injEq,and_true] at e0 e1 e2 e3 e4 e5 e6 e7 e8
  subst e0 e1 e2 e3 e4 e5 e6 e7 e8
  exact ⟨⟨v0,v1,v2,v3,l4,l5,v6,v7,v8⟩,anJ W ⟨v0,v1,v2,v3,l4,l5,v6,v7,v8⟩ m4 r4 m5 r5,T.wf64 w0,T.wf64 w1,T.wf64 w2,T.wf64 w3,w4,w5,T.wf64 w6,T.wf64 w7,T.wf64 w8⟩
end
section
open Go.ChangeShapes Go.WideShapes Go.ChangeAt
theorem aoj {H:Type} {enc:TypeId × Value→H} {W:World} {cs:Array Value} {d:DataW H} {ps:List MemPlace} (h:DataW.Trod enc Tryz.prog W 0 (fun _=>true) true 47 (.agg cs) d ps):∃ (o:S47) (A4:Option Addr) (c4:Nat) (A5:Option Addr) (c5:Nat),cs = #[.int .i64 o.f0,.int .i64 o.f1,.int .i64 o.f2,.int .i64 o.f3,.slice A4 o.f4.length c4,.slice A5 o.f5.length c5,.int .i64 o.f6,.int .i64 o.f7,.int .i64 o.f8]∧opI o∧Kd.C (Kd.int .i64) W A4 o.f4.length o.f4∧o.f4.length≤c4∧Kd.C (Kd.int .i64) W A5 o.f5.length o.f5∧o.f5.length≤c5:=by
  obtain ⟨fuel,hf⟩:=h
  obtain ⟨us,hus⟩:∃ us:List Value,us=cs.toList:=⟨_,rfl⟩
  have hcs:(Value.agg cs).cells.toList=us:=by rw [hus];rfl
  rw [hcs] at hf
  obtain ⟨o,hK,hI⟩:=arX hf
  obtain ⟨A4,c4,A5,c5,e,l4,g4,l5,g5⟩:=ajs hK
  refine ⟨o,A4,c4,A5,c5,?_,hI,g4,l4,g5,l5⟩
  rw [hus] at e
  cases cs with|mk ls=>exact congrArg Array.mk e
end
end Go.Proofs.YtpondkggmcmpfaaGreatDoor.QA
