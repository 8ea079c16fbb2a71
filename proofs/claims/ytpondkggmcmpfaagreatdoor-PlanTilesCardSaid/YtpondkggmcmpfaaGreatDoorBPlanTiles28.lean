/- Joined by wip/tools/bundle.py out of: TT4 TLt. -/
import Derived.Test.YtpondkggmcmpfaaGreatDoorBPlanTiles1
import Derived.Test.YtpondkggmcmpfaaGreatDoorBPlanTiles8
import Derived.Test.YtpondkggmcmpfaaGreatDoorBPlanTiles14
import Derived.Test.YtpondkggmcmpfaaGreatDoorBPlanTiles15
import Derived.Handy
import Derived.Lib.SliceRun
import Derived.Test.YtpondkggmcmpfaaGreatDoorBPlanTiles0
import Derived.LaidEqlPtr
import Derived.Test.YtpondkggmcmpfaaGreatDoorBPlanTiles10
import Derived.Test.YtpondkggmcmpfaaGreatDoorBPlanTiles11
import Derived.Test.YtpondkggmcmpfaaGreatDoorBPlanTiles16
import Derived.Test.YtpondkggmcmpfaaGreatDoorBPlanTiles17
import Derived.Test.YtpondkggmcmpfaaGreatDoorBPlanTiles18
import Derived.Test.YtpondkggmcmpfaaGreatDoorBPlanTiles19
import Derived.Test.YtpondkggmcmpfaaGreatDoorBPlanTiles20
import Derived.Test.YtpondkggmcmpfaaGreatDoorBPlanTiles21
import Derived.Test.YtpondkggmcmpfaaGreatDoorBPlanTiles22
import Derived.Test.YtpondkggmcmpfaaGreatDoorBPlanTiles23
import Derived.Test.YtpondkggmcmpfaaGreatDoorBPlanTiles24
import Derived.Test.YtpondkggmcmpfaaGreatDoorBPlanTiles25
import Derived.Test.YtpondkggmcmpfaaGreatDoorBPlanTiles26
import Derived.Test.YtpondkggmcmpfaaGreatDoorBPlanTiles27
import Derived.ProofKit
import Derived.OpenShut
import Derived.ChangeSame
import Derived.LaidMore
import Derived.DataReads
namespace Go.Proofs.YtpondkggmcmpfaaGreatDoor.QA
open Go.RowKit Go.Proofs.YtpondkggmcmpfaaGreatDoorW.PrintWords Go.Proofs.YtpondkggmcmpfaaGreatDoorW.PrintLast Go.Proofs.YtpondkggmcmpfaaGreatDoorW.PrintMore Go.Proofs.YtpondkggmcmpfaaGreatDoor.T
set_option linter.unusedVariables false
set_option linter.unusedSimpArgs false
theorem am4 (w:World) (v0 v1 v2 u0 u1 u2 u3 u4:Value):∃ W5 g,W5=(w.alloc (.cells #[v0,v1,v2] 38)).alloc (.cells #[u0,u1,u2,u3,u4] 41)∧g=w.heap.size∧W5.heap[g]? = some (.cells #[v0,v1,v2] 38 (0,0))∧W5.heap[g+1]? = some (.cells #[u0,u1,u2,u3,u4] 41 (0,0))∧Below w.heap.size w W5:=⟨_,_,rfl,rfl,(by rw [tX _ _ _ (by simp)];exact heap_alloc_new w _),yQ _ _ _ (by simp),aV (aV (Below.refl _ _) _) _⟩
theorem apP (t:S67) (w:World):(Op.equal 67 (qo t) (qo t)).run Tryz.prog w = .ok true w:=by
  unfold qo
  show (Op.equalIn (9999+1) _ _ _).run _ _=_
  refine ahd Tryz.underlying67 (by kernel_rfl) ?_
  simp [Op.eqFields,go_sem,Tryz.underlying3,Tryz.underlying2]
theorem ah1 (t:S67) (w:World):(Op.equal 58 (qo t) (qo t)).run Tryz.prog w = .ok true w:=by
  unfold qo
  show (Op.equalIn (9999+1) _ _ _).run _ _=_
  have hr:∀ (d:Nat) (a0 a1 a2 a3:Int),(Op.equalIn (d+2) 56 (.agg #[.int .i64 a0,.int .i64 a1,.int .i64 a2,.int .i64 a3]) (.agg #[.int .i64 a0,.int .i64 a1,.int .i64 a2,.int .i64 a3])).run Tryz.prog w = .ok true w:=fun d a0 a1 a2 a3=>by
    refine ahd Tryz.underlying56 (by kernel_rfl) ?_
    simp [Op.eqFields,go_sem,Tryz.underlying3]
  have h0:=hr 9997 t.f1 t.f2 t.f3 t.f4
  refine ahd Tryz.underlying58 (by kernel_rfl) ?_
  simp [Op.eqFields,go_sem,h0,Tryz.underlying3,Tryz.underlying2]
theorem aoL (bx bz:Nat) (bd:Int) (w:World):(Op.equal 38 (.agg #[.pointer (some ⟨bx,0,none⟩),.pointer (some ⟨bz,0,none⟩),.int .i64 bd]) (.agg #[.pointer (some ⟨bx,0,none⟩),.pointer (some ⟨bz,0,none⟩),.int .i64 bd])).run Tryz.prog w = .ok true w:=by
  show (Op.equalIn (9999+1) _ _ _).run _ _=_
  refine ahd Tryz.underlying38 (by kernel_rfl) ?_
  have hp:∀ (d:Nat) (a:Addr),(Op.equalIn (d+1) 35 (.pointer (some a)) (.pointer (some a))).run Tryz.prog w = .ok true w:=fun d a=>by
    simp [Op.equalIn,run_underlying Tryz.underlying35,sizeOf,run_sameAddr_same]
  have h0:=hp 9998 ⟨bx,0,none⟩
  have h1:=hp 9998 ⟨bz,0,none⟩
  simp [Op.eqFields,go_sem,h0,h1,Tryz.underlying36]
theorem at7 (t:S67) (w:World):(binOp .neq 67 (qo t) (qo t)).run Tryz.prog w = .ok (.bool false) w:=by
  have h:=apP t w
  unfold qo at h ⊢
  simp only [binOp];simp [h]
theorem arS (t:S67) (w:World):(binOp .neq 58 (qo t) (qo t)).run Tryz.prog w = .ok (.bool false) w:=by
  have h:=ah1 t w
  unfold qo at h ⊢
  simp only [binOp];simp [h]
theorem arT (t:S67) (w:World):(binOp .eql 58 (qo t) (qo t)).run Tryz.prog w = .ok (.bool true) w:=by
  have h:=ah1 t w
  unfold qo at h ⊢
  simp only [binOp];simp [h]
theorem arU (bx bz:Nat) (bd:Int) (w:World):(binOp .neq 38 (.agg #[.pointer (some ⟨bx,0,none⟩),.pointer (some ⟨bz,0,none⟩),.int .i64 bd]) (.agg #[.pointer (some ⟨bx,0,none⟩),.pointer (some ⟨bz,0,none⟩),.int .i64 bd])).run Tryz.prog w = .ok (.bool false) w:=by
  simp only [binOp];simp [aoL]
set_option maxHeartbeats 8000000 in
set_option maxRecDepth 100000 in
theorem ag5 (o:S47) (A4:Option Addr) (c4:Nat) (A5:Option Addr) (c5:Nat) (wd ht tw th ix:Int) (hw:0≤wd∧wd≤255) (hh:0≤ht∧ht≤255) (w:World) (hG:GL w) (hI:opI o) (hx:Kd.C (Kd.int .i64) w A4 o.f4.length o.f4) (lx:o.f4.length≤c4) (hy:Kd.C (Kd.int .i64) w A5 o.f5.length o.f5) (ly:o.f5.length≤c5) :
    Calls Tryz.prog 5 #[opV o.f0 o.f1 o.f2 o.f3 A4 o.f4.length c4 A5 o.f5.length c5 o.f6 o.f7 o.f8,.int .u8 wd,.int .u8 ht,.int .i64 tw,.int .i64 th,.int .i64 ix] w fun e w'=>e = .returned (.bool true)∧Below w.heap.size w w':=by
  have LV:=aj.mk (fun w' (hb:Below w.heap.size w w')=>ajY w' (hG.below hb))
  have SG:=aj.mk (fun w' (hb:Below w.heap.size w w')=>alU o A4 c4 A5 c5 wd ht hw hh w' (hG.below hb) hI (Kd.bI hx hb) lx (Kd.bI hy hb) ly)
  have PL:=aj.mk (ayG (o:=o) hw.1 hh.1 hI)
  unfold aoJ aoK at SG
  obtain ⟨tx,htx⟩:∃ x,x=oC o (1+wd % 20):=⟨_,rfl⟩
  obtain ⟨ty,hty⟩:∃ x,x=oD o (1+ht % 20):=⟨_,rfl⟩
  rw [← htx,← hty] at SG PL
  obtain ⟨C,hC⟩:∃ C,C=(zX [o] 20=true∧jD o (1+wd % 20) (1+ht % 20)=0):=⟨_,rfl⟩
  obtain ⟨l1,hl1⟩:∃ l,l=tx.lines.map toR:=⟨_,rfl⟩
  obtain ⟨l2,hl2⟩:∃ l,l=ty.lines.map toR:=⟨_,rfl⟩
  obtain ⟨p,hp⟩:∃ x,x=o.f4.length:=⟨_,rfl⟩
  obtain ⟨q,hq⟩:∃ x,x=o.f5.length:=⟨_,rfl⟩
  rw [← hl1,← hl2,← hp,← hq] at SG
  rw [← hp,← hq]
  have hCd:C∨¬ C:=Classical.em _
  rw [← hC] at PL
  have SG2:aj ((C→∀ w',Below w.heap.size w w'→_)∧(¬ C→∀ w',Below w.heap.size w w'→_)):=⟨fun h w' hb=>by have:=SG.out w' hb;rw [if_pos (by rw [← hC];exact h)] at this;exact this,fun h w' hb=>by have:=SG.out w' hb;rw [if_neg (by rw [← hC];exact h)] at this;exact this⟩
  have L12:=aj.mk (And.intro hl1 hl2)
  clear SG hG hI hx lx hy ly htx hty hC hl1 hl2 hp hq
  obtain ⟨k,b,s,r,x4,x5,f,ow,oh⟩:=o
  simp only at *
  obtain ⟨W1,g,e1,hg,h1,hb1⟩:=avk w (.int .i64 k) (.int .i64 b) (.int .i64 s) (.int .i64 r) (.slice A4 p c4) (.slice A5 q c5) (.int .i64 f) (.int .i64 ow) (.int .i64 oh)
  have E1:=aj.mk e1
  have EG:=aj.mk hg
  have H1:=aj.mk h1
  have BX:=aj.mk hb1
  clear e1 hg h1 hb1
  have mixed:Tryz.prog.follows .mixedOrders=true:=by kernel_rfl
  unfold opV at *
  rcases hCd with hC|hC
  rotate_left
  · have SG:=aj.mk (SG2.out.2 hC)
    clear SG2 PL hC
    go_enter Tryz.func5,Tryz.ntmps5
    go_upto_region 1 with fail
    rw [← EG.out,← E1.out]
    go_upto_region 3 with (go_at_call 18;(with_reducible refine (LV.out _ BX.out).mono ?_);rintro e w2 ⟨rfl,hb1⟩;have B2:=aj.mk (ak BX.out hb1);have H2:=aj.mk (ay H1.out hb1);clear hb1)
    obtain ⟨z0,z1,z2,z3,z4,z5,z6,z7,z8⟩:=cells9 H2.out
    go_wp2_with (go_at_call 19;(with_reducible refine (SG.out _ B2.out).mono ?_);rintro e w3 ⟨hb1,rfl⟩;have B3:=aj.mk (ak B2.out hb1);clear hb1)
    go_ret
    exact ⟨rfl,aV (aV B3.out _) _⟩
  have SG:=aj.mk (SG2.out.1 hC)
  have PW:=PL.out hC
  clear SG2 PL hC
  by_cases hok:okS tw∧okS th
  rotate_left
  · have HN:=aj.mk hok
    have avl:tw < 1∨(¬ tw < 1∧4096 < tw)∨(¬ tw < 1∧¬ 4096 < tw∧th < 1)∨(¬ tw < 1∧¬ 4096 < tw∧¬ th < 1∧4096 < th):=by unfold okS at hok;omega
    clear hok
    rcases avl with q1|⟨q1,q2⟩|⟨q1,q2,q3⟩|⟨q1,q2,q3,q4⟩
    all_goals (
      go_enter Tryz.func5,Tryz.ntmps5
      go_upto_region 1 with fail
      rw [← EG.out,← E1.out]
      go_upto_region 3 with (go_at_call 18;(with_reducible refine (LV.out _ BX.out).mono ?_);rintro e w2 ⟨rfl,hb1⟩;have B2:=aj.mk (ak BX.out hb1);have H2:=aj.mk (ay H1.out hb1);clear hb1)
      obtain ⟨z0,z1,z2,z3,z4,z5,z6,z7,z8⟩:=cells9 H2.out
      go_upto_region 4 with (go_at_call 19;(with_reducible refine (SG.out _ B2.out).mono ?_);rintro e w3 ⟨hb1,bx,bz,A1,k1,A2,k2,rfl,tx3,ty3,m1,g1,m2,g2⟩;have B3:=aj.mk (ak B2.out hb1);have X3:=aj.mk tx3;have Y3:=aj.mk ty3;have M3:=aj.mk (And.intro m1 (And.intro g1 (And.intro m2 g2)));clear hb1 tx3 ty3 m1 g1 m2 g2)
      clear z0 z1 z2 z3 z4 z5 z6 z7 z8
      obtain ⟨W5,gs,e5,hgs,h5,h6,hb5⟩:=am4 w3 (.pointer (some ⟨bx,0,none⟩)) (.pointer (some ⟨bz,0,none⟩)) (.int .i64 b) (.slice A1 l1.length k1) (.slice A2 l2.length k2) (.int .i64 (1+wd % 20)) (.int .i64 (1+ht % 20)) (.int .i64 b)
      rw [← hgs,← e5]
      have B5:=aj.mk (ak B3.out hb5)
      have X5:=aj.mk (X3.out.below hb5)
      have Y5:=aj.mk (Y3.out.below hb5)
      have S5:=aj.mk h5
      have R5:=aj.mk h6
      have M5:=aj.mk (And.intro M3.out.1 (And.intro (Kd.bI M3.out.2.1 hb5) (And.intro M3.out.2.2.1 (Kd.bI M3.out.2.2.2 hb5))))
      clear e5 hgs h5 h6 hb5 X3 Y3 B3 H2 B2 LV SG M3
      obtain ⟨s0,s1,s2⟩:=cells3 S5.out
      go_wp2_with (go_at_call 20;(with_reducible refine (atZ bx bz b tw th W5 HN.out).mono ?_);rintro e w6 ⟨hb1,rfl⟩;have B6:=aj.mk (ak B5.out hb1);clear hb1)
      go_ret
      exact ⟨rfl,B6.out⟩)
  obtain ⟨ha,hb⟩:=hok
  have PB:=aj.mk (PW.B (a:=tw) (b:=th) ha.1 ha.2 hb.1 hb.2)
  obtain ⟨n,hn,n4⟩:=PW.n (a:=tw) (b:=th) ha.1 hb.1
  have HAB:=aj.mk (show (1≤tw∧tw≤4096)∧(1≤th∧th≤4096) from ⟨ha,hb⟩)
  have q1:¬ tw < 1:=by have:=ha.1;omega
  have q2:¬ 4096 < tw:=by have:=ha.2;omega
  have q3:¬ th < 1:=by have:=hb.1;omega
  have q4:¬ 4096 < th:=by have:=hb.2;omega
  have HNN:=aj.mk hn
  have RA:aj (∃ K,bQ.f K l1 l2 (1+wd % 20) (1+ht % 20) b tw th=some (nD tx ty tw th n)):=⟨by rw [L12.out.1,L12.out.2];exact alT PW.x PW.y PB.out n hn (by omega) _ _ _⟩
  clear hn PW ha hb
  go_enter Tryz.func5,Tryz.ntmps5
  go_upto_region 1 with fail
  rw [← EG.out,← E1.out]
  go_upto_region 3 with (go_at_call 18;(with_reducible refine (LV.out _ BX.out).mono ?_);rintro e w2 ⟨rfl,hb1⟩;have B2:=aj.mk (ak BX.out hb1);have H2:=aj.mk (ay H1.out hb1);clear hb1)
  obtain ⟨z0,z1,z2,z3,z4,z5,z6,z7,z8⟩:=cells9 H2.out
  go_upto_region 4 with (go_at_call 19;(with_reducible refine (SG.out _ B2.out).mono ?_);rintro e w3 ⟨hb1,bx,bz,A1,k1,A2,k2,rfl,tx3,ty3,m1,g1,m2,g2⟩;have B3:=aj.mk (ak B2.out hb1);have X3:=aj.mk tx3;have Y3:=aj.mk ty3;have M3:=aj.mk (And.intro m1 (And.intro g1 (And.intro m2 g2)));clear hb1 tx3 ty3 m1 g1 m2 g2)
  clear z0 z1 z2 z3 z4 z5 z6 z7 z8
  obtain ⟨W5,gs,e5,hgs,h5,h6,hb5⟩:=am4 w3 (.pointer (some ⟨bx,0,none⟩)) (.pointer (some ⟨bz,0,none⟩)) (.int .i64 b) (.slice A1 l1.length k1) (.slice A2 l2.length k2) (.int .i64 (1+wd % 20)) (.int .i64 (1+ht % 20)) (.int .i64 b)
  rw [← hgs,← e5]
  have B5:=aj.mk (ak B3.out hb5)
  have X5:=aj.mk (X3.out.below hb5)
  have Y5:=aj.mk (Y3.out.below hb5)
  have S5:=aj.mk h5
  have R5:=aj.mk h6
  have M5:=aj.mk (And.intro M3.out.1 (And.intro (Kd.bI M3.out.2.1 hb5) (And.intro M3.out.2.2.1 (Kd.bI M3.out.2.2.2 hb5))))
  clear e5 hgs h5 h6 hb5 X3 Y3 B3 H2 B2 LV SG M3
  obtain ⟨s0,s1,s2⟩:=cells3 S5.out
  go_upto_region 11 with (go_at_call 20;(with_reducible refine (apL bx bz b tw th W5 HAB.out.1 HAB.out.2).mono ?_);rintro e w6 ⟨hb1,bp,rfl,hp4⟩;have B6:=aj.mk (ak B5.out hb1);have X6:=aj.mk (X5.out.below hb1);have Y6:=aj.mk (Y5.out.below hb1);have S6:=aj.mk (ay S5.out hb1);have R6:=aj.mk (ay R5.out hb1);have M6:=aj.mk (And.intro M5.out.1 (And.intro (Kd.bI M5.out.2.1 hb1) (And.intro M5.out.2.2.1 (Kd.bI M5.out.2.2.2 hb1))));have HP:=aj.mk (show uw w6 bp bx bz b tw th tx ty from ⟨hp4,X5.out.below hb1,Y5.out.below hb1⟩);clear hb1 hp4)
  clear s0 s1 s2 B5 X5 Y5 S5 R5 M5
  obtain ⟨K,hK⟩:=RA.out
  have HK:=aj.mk hK
  clear hK RA q1 q2 q3 q4
  obtain ⟨s0,s1,s2⟩:=cells3 S6.out
  obtain ⟨u0,u1,u2,u3,u4⟩:=cells5 R6.out
  go_upto_region 13 with (first
    | (go_at_call 24;(with_reducible refine (bQ.calls K A1 k1 l1 A2 k2 l2 _ _ _ _ _ _ w6 M6.out.2.1 M6.out.1 M6.out.2.2.2 M6.out.2.2.1 HK.out).mono ?_);rintro e w7 ⟨_,rfl,hv,hb1⟩;obtain ⟨Aw,cw,rfl,-,gw⟩:=Kd.yj hv;rw [wO] at gw ⊢;have B7:=aj.mk (ak B6.out hb1);have S7:=aj.mk (ay S6.out hb1);have HP7:=aj.mk (HP.out.below hb1);have GW:=aj.mk gw;clear hb1 hv gw)
    | (go_at_call 21;(with_reducible refine (ai8 bp bx bz b tw th tx ty n w7 HP7.out PB.out HNN.out (by omega)).mono ?_);rintro e w8 ⟨hb1,At,ct,rfl,-,gt⟩;have B8:=aj.mk (ak B7.out hb1);have S8:=aj.mk (ay S7.out hb1);have HP8:=aj.mk (HP7.out.below hb1);have GW8:=aj.mk (Kd.bI GW.out hb1);have GT:=aj.mk gt;clear hb1 gt))
  clear s0 s1 s2 u0 u1 u2 u3 u4
  have CO:=aj.mk (fun w' (hb:Below w8.heap.size w8 w')=>wM bp bx bz b tw th tx ty w' (HP8.out.below hb) PB.out)
  rw [← HNN.out] at CO
  have ST:=aj.mk (fun w' (hb:Below w8.heap.size w8 w')=>ah0 bp bx bz b tw th w' (HP8.out.below hb).1)
  have HS:=aj.mk (fun w' (hb:Below w8.heap.size w8 w')=>(show Below w8.heap.size w8 w'∧w'.cell? ⟨gs,0,none⟩=some (.pointer (some ⟨bx,0,none⟩))∧w'.cell? ⟨gs,1,none⟩=some (.pointer (some ⟨bz,0,none⟩))∧w'.cell? ⟨gs,2,none⟩=some (.int .i64 b) from ⟨hb,cells3 (ay S8.out hb)⟩))
  have S0:=Below.refl w8.heap.size w8
  obtain ⟨-,s0,s1,s2⟩:=HS.out _ S0
  have e0:((n:Int) != (n:Int))=false:=by simp
  have es:=arU bx bz b
  go_region_held3 (fun w'=>Below w8.heap.size w8 w'∧w'.cell? ⟨gs,0,none⟩=some (.pointer (some ⟨bx,0,none⟩))∧w'.cell? ⟨gs,1,none⟩=some (.pointer (some ⟨bz,0,none⟩))∧w'.cell? ⟨gs,2,none⟩=some (.int .i64 b))
    ((refine HS.out _ ?_;repeat (first|(with_reducible exact S0)|(with_reducible assumption)|(with_reducible apply aV)|(with_reducible apply aN)|(with_reducible apply bf))))
    (first
      | (go_at_call 25;(with_reducible refine Calls.mono (CO.out _ ?hh) ?_);(case hh=>repeat (first|(with_reducible exact S0)|(with_reducible assumption)|(with_reducible apply aN)|(with_reducible apply bf)));rintro e w' ⟨rfl,⟨nd,rfl⟩⟩)
      | (go_at_call 26;(with_reducible refine Calls.mono (ST.out _ ?hh) ?_);(case hh=>repeat (first|(with_reducible exact S0)|(with_reducible assumption)|(with_reducible apply aN)|(with_reducible apply bf)));rintro e w9 ⟨rfl,hb9⟩;have hs9:Below w8.heap.size w8 w9:=ak (by repeat (first|(with_reducible exact S0)|(with_reducible assumption)|(with_reducible apply aN)|(with_reducible apply bf))) hb9))
  have B9:=aj.mk (ak B8.out hs9)
  have HP9:=aj.mk (HP8.out.below hs9)
  have GW9:=aj.mk (Kd.bI GW8.out hs9)
  have GT9:=aj.mk (Kd.bI GT.out hs9)
  clear s0 s1 s2 es e0 HS ST CO S0 hs9 hb9 S8 HP8 GW8 GT B8 HP7 HP B6 B7 GW M6 X6 Y6 S6 R6 S7
  (try simp only [Exit.inBlock,Exit.then])
  go_wp2
  have TL:=aj.mk (fun (i:Nat) (hi:i < n) w' (hb:Below w9.heap.size w9 w')=>ai7 bp bx bz b tw th tx ty (i:Int) w' (HP9.out.below hb) PB.out (by omega) (by rw [← HNN.out];omega))
  go_loopg [97] n (fun kx s97 wr=>∃ (i:Nat),s97 = .int .i64 i∧i≤n∧n - i≤kx∧aj (Below w9.heap.size w9 wr))
  case atStart=>exact ⟨0,rfl,by omega,by omega,⟨Below.refl _ _⟩⟩
  case round =>
    obtain ⟨i,rfl,i1,i2,HB⟩:=hrel
    have wi:IntKind.i64.wrap ((i:Int)+1)=(i:Int)+1:=by rw [pK];exact aC (by omega) (by omega)
    by_cases hlt:(i:Int) < (n:Int)
    rotate_left
    · have him:i=n:=by omega
      subst him
      clear hlt i1 i2
      by_cases hx:0≤ix∧ix < (i:Int)
      · have T1:=aj.mk (ai7 bp bx bz b tw th tx ty ix wr (HP9.out.below HB.out) PB.out hx.1 (by rw [← HNN.out];exact hx.2))
        generalize abU tx ty tw th ix=t at T1
        unfold qo at T1
        have d1:decide (0≤ix)=true:=decide_eq_true hx.1
        have d2:decide (ix < (i:Int))=true:=decide_eq_true hx.2
        obtain ⟨hx1,hx2⟩:=hx
        go_wp2_with (go_at_call 27;(with_reducible refine T1.out.mono ?_);rintro e w10 ⟨rfl,hb1⟩;have B10:=aj.mk (ak (ak B9.out HB.out) hb1);clear hb1)
        go_ret
        exact ⟨rfl,aV B10.out _⟩
      · have T1:=aj.mk (arR bp bx bz b tw th tx ty ix wr (HP9.out.below HB.out) PB.out (by rw [← HNN.out];exact hx))
        have ez:=arT z67
        unfold qo z67 at ez
        simp only at ez
        have hcs:ix < 0∨(0≤ix∧¬ ix < (i:Int)):=by omega
        clear hx
        rcases hcs with hx|⟨hx,hx2⟩
        · have d1:decide (0≤ix)=false:=decide_eq_false (by omega)
          have hx3:¬ 0≤ix:=by omega
          go_upto_region 23 with (go_at_call 27;(with_reducible refine T1.out.mono ?_);rintro e w10 ⟨rfl,hb1⟩;have B10:=aj.mk (ak (ak B9.out HB.out) hb1);clear hb1)
          obtain ⟨W11,gz,e11,hgz,h11,alZ⟩:=afj w10
          rw [← hgz,← e11]
          have B11:=aj.mk (ak B10.out alZ)
          obtain ⟨y0,y1,y2,y3,y4,y5,y6,y7,y8,y9⟩:=vG h11
          clear e11 hgz h11 alZ
          go_wp2
          go_ret
          exact ⟨rfl,B11.out⟩
        · have d1:decide (0≤ix)=true:=decide_eq_true hx
          have d2:decide (ix < (i:Int))=false:=decide_eq_false hx2
          go_upto_region 23 with (go_at_call 27;(with_reducible refine T1.out.mono ?_);rintro e w10 ⟨rfl,hb1⟩;have B10:=aj.mk (ak (ak B9.out HB.out) hb1);clear hb1)
          obtain ⟨W11,gz,e11,hgz,h11,alZ⟩:=afj w10
          rw [← hgz,← e11]
          have B11:=aj.mk (ak B10.out alZ)
          obtain ⟨y0,y1,y2,y3,y4,y5,y6,y7,y8,y9⟩:=vG h11
          clear e11 hgz h11 alZ
          go_wp2
          go_ret
          exact ⟨rfl,B11.out⟩
    have p1:(0≤(i:Int)):=by omega
    have q0:i < n:=by omega
    have qd:decide (i < n)=true:=decide_eq_true q0
    obtain ⟨ad,e0,y0,y1,y2,y3,y4,y5,y6,y7,y8,y9⟩:=apo (Kd.bI GT9.out HB.out) (i:Int) p1 hlt
    subst e0
    obtain ⟨ad2,e0,x0,x1,x2,x3,x4,x5,x6,x7,x8,x9⟩:=apo (Kd.bI GW9.out HB.out) (i:Int) p1 hlt
    subst e0
    have T1:=aj.mk (TL.out i q0)
    rw [Int.toNat_natCast,arO _ _ _ _ q0] at y0 y1 y2 y3 y4 y5 y6 y7 y8 y9 x0 x1 x2 x3 x4 x5 x6 x7 x8 x9
    generalize abU tx ty tw th (i:Int)=t at T1 y0 y1 y2 y3 y4 y5 y6 y7 y8 y9 x0 x1 x2 x3 x4 x5 x6 x7 x8 x9
    unfold qo at T1
    have en:=at7 t
    have ep:=arS t
    unfold qo at en ep
    go_upto_region 18 with fail
    obtain ⟨W10,g1,e10,hg1,h10,arV⟩:=alY wr (.int .i64 t.f0) (.int .i64 t.f1) (.int .i64 t.f2) (.int .i64 t.f3) (.int .i64 t.f4) (.int .i64 t.f5) (.int .i64 t.f6) (.int .i64 t.f7) (.int .i64 t.f8) (.int .i64 t.f9)
    rw [← hg1,← e10]
    have B10:=aj.mk (ak HB.out arV)
    have H10:=aj.mk h10
    have X10:=aj.mk arV
    clear e10 hg1 h10 arV y0 y1 y2 y3 y4 y5 y6 y7 y8 y9
    go_upto_region 19 with (go_at_call 27;(with_reducible refine (T1.out _ B10.out).mono ?_);rintro e w11 ⟨rfl,hb1⟩;have B11:=aj.mk (ak B10.out hb1);have H11:=aj.mk (ay H10.out hb1);have X11:=aj.mk (ak X10.out hb1);clear hb1)
    obtain ⟨W12,g2,e12,hg2,h12,aoM⟩:=alY w11 (.int .i64 t.f0) (.int .i64 t.f1) (.int .i64 t.f2) (.int .i64 t.f3) (.int .i64 t.f4) (.int .i64 t.f5) (.int .i64 t.f6) (.int .i64 t.f7) (.int .i64 t.f8) (.int .i64 t.f9)
    rw [← hg2,← e12]
    have B12:=aj.mk (ak B11.out aoM)
    have H12:=aj.mk (ay H11.out aoM)
    have K12:=aj.mk h12
    have acu:=ak X11.out aoM
    replace x0:=(acu.cell (World.block_lt_of_cell? wr _ x0)).trans x0
    replace x1:=(acu.cell (World.block_lt_of_cell? wr _ x1)).trans x1
    replace x2:=(acu.cell (World.block_lt_of_cell? wr _ x2)).trans x2
    replace x3:=(acu.cell (World.block_lt_of_cell? wr _ x3)).trans x3
    replace x4:=(acu.cell (World.block_lt_of_cell? wr _ x4)).trans x4
    replace x5:=(acu.cell (World.block_lt_of_cell? wr _ x5)).trans x5
    replace x6:=(acu.cell (World.block_lt_of_cell? wr _ x6)).trans x6
    replace x7:=(acu.cell (World.block_lt_of_cell? wr _ x7)).trans x7
    replace x8:=(acu.cell (World.block_lt_of_cell? wr _ x8)).trans x8
    replace x9:=(acu.cell (World.block_lt_of_cell? wr _ x9)).trans x9
    clear e12 hg2 h12 aoM acu
    have HS:=aj.mk (fun w' (hb:Below W12.heap.size W12 w')=>(show Below W12.heap.size W12 w'∧w'.cell? ⟨g1,0,none⟩=some (.int .i64 t.f0)∧w'.cell? ⟨g1,1,none⟩=some (.int .i64 t.f1)∧w'.cell? ⟨g1,2,none⟩=some (.int .i64 t.f2)∧w'.cell? ⟨g1,3,none⟩=some (.int .i64 t.f3)∧w'.cell? ⟨g1,4,none⟩=some (.int .i64 t.f4)∧w'.cell? ⟨g1,5,none⟩=some (.int .i64 t.f5)∧w'.cell? ⟨g1,6,none⟩=some (.int .i64 t.f6)∧w'.cell? ⟨g1,7,none⟩=some (.int .i64 t.f7)∧w'.cell? ⟨g1,8,none⟩=some (.int .i64 t.f8)∧w'.cell? ⟨g1,9,none⟩=some (.int .i64 t.f9)∧w'.cell? ⟨g2,0,none⟩=some (.int .i64 t.f0)∧w'.cell? ⟨g2,1,none⟩=some (.int .i64 t.f1)∧w'.cell? ⟨g2,2,none⟩=some (.int .i64 t.f2)∧w'.cell? ⟨g2,3,none⟩=some (.int .i64 t.f3)∧w'.cell? ⟨g2,4,none⟩=some (.int .i64 t.f4)∧w'.cell? ⟨g2,5,none⟩=some (.int .i64 t.f5)∧w'.cell? ⟨g2,6,none⟩=some (.int .i64 t.f6)∧w'.cell? ⟨g2,7,none⟩=some (.int .i64 t.f7)∧w'.cell? ⟨g2,8,none⟩=some (.int .i64 t.f8)∧w'.cell? ⟨g2,9,none⟩=some (.int .i64 t.f9)∧w'.cell? (ad2.add (i*10))=some (.int .i64 t.f0)∧w'.cell? ⟨(ad2.add (i*10)).block,(ad2.add (i*10)).off+1,none⟩=some (.int .i64 t.f1)∧w'.cell? ⟨(ad2.add (i*10)).block,(ad2.add (i*10)).off+2,none⟩=some (.int .i64 t.f2)∧w'.cell? ⟨(ad2.add (i*10)).block,(ad2.add (i*10)).off+3,none⟩=some (.int .i64 t.f3)∧w'.cell? ⟨(ad2.add (i*10)).block,(ad2.add (i*10)).off+4,none⟩=some (.int .i64 t.f4)∧w'.cell? ⟨(ad2.add (i*10)).block,(ad2.add (i*10)).off+5,none⟩=some (.int .i64 t.f5)∧w'.cell? ⟨(ad2.add (i*10)).block,(ad2.add (i*10)).off+6,none⟩=some (.int .i64 t.f6)∧w'.cell? ⟨(ad2.add (i*10)).block,(ad2.add (i*10)).off+7,none⟩=some (.int .i64 t.f7)∧w'.cell? ⟨(ad2.add (i*10)).block,(ad2.add (i*10)).off+8,none⟩=some (.int .i64 t.f8)∧w'.cell? ⟨(ad2.add (i*10)).block,(ad2.add (i*10)).off+9,none⟩=some (.int .i64 t.f9) from by
      obtain ⟨a0,a1,a2,a3,a4,a5,a6,a7,a8,a9⟩:=vG (ay H12.out hb)
      obtain ⟨b0,b1,b2,b3,b4,b5,b6,b7,b8,b9⟩:=vG (ay K12.out hb)
      exact ⟨hb,a0,a1,a2,a3,a4,a5,a6,a7,a8,a9,b0,b1,b2,b3,b4,b5,b6,b7,b8,b9,(hb.cell (World.block_lt_of_cell? W12 _ x0)).trans x0,(hb.cell (World.block_lt_of_cell? W12 _ x1)).trans x1,(hb.cell (World.block_lt_of_cell? W12 _ x2)).trans x2,(hb.cell (World.block_lt_of_cell? W12 _ x3)).trans x3,(hb.cell (World.block_lt_of_cell? W12 _ x4)).trans x4,(hb.cell (World.block_lt_of_cell? W12 _ x5)).trans x5,(hb.cell (World.block_lt_of_cell? W12 _ x6)).trans x6,(hb.cell (World.block_lt_of_cell? W12 _ x7)).trans x7,(hb.cell (World.block_lt_of_cell? W12 _ x8)).trans x8,(hb.cell (World.block_lt_of_cell? W12 _ x9)).trans x9⟩))
    have RF:=aj.mk (fun w'=>xC.calls t.f0 t.f1 t.f2 t.f3 t.f4 t.f5 t.f6 t.f7 t.f8 t.f9 _ _ _ _ _ _ _ _ _ _ w' rfl)
    have S0:=Below.refl W12.heap.size W12
    obtain ⟨y0,y1,y2,y3,y4,y5,y6,y7,y8,y9⟩:=vG H12.out
    obtain ⟨q0,q1,q2,q3,q4,q5,q6,q7,q8,q9⟩:=vG K12.out
    go_region_held3 (fun w'=>Below W12.heap.size W12 w'∧w'.cell? ⟨g1,0,none⟩=some (.int .i64 t.f0)∧w'.cell? ⟨g1,1,none⟩=some (.int .i64 t.f1)∧w'.cell? ⟨g1,2,none⟩=some (.int .i64 t.f2)∧w'.cell? ⟨g1,3,none⟩=some (.int .i64 t.f3)∧w'.cell? ⟨g1,4,none⟩=some (.int .i64 t.f4)∧w'.cell? ⟨g1,5,none⟩=some (.int .i64 t.f5)∧w'.cell? ⟨g1,6,none⟩=some (.int .i64 t.f6)∧w'.cell? ⟨g1,7,none⟩=some (.int .i64 t.f7)∧w'.cell? ⟨g1,8,none⟩=some (.int .i64 t.f8)∧w'.cell? ⟨g1,9,none⟩=some (.int .i64 t.f9)∧w'.cell? ⟨g2,0,none⟩=some (.int .i64 t.f0)∧w'.cell? ⟨g2,1,none⟩=some (.int .i64 t.f1)∧w'.cell? ⟨g2,2,none⟩=some (.int .i64 t.f2)∧w'.cell? ⟨g2,3,none⟩=some (.int .i64 t.f3)∧w'.cell? ⟨g2,4,none⟩=some (.int .i64 t.f4)∧w'.cell? ⟨g2,5,none⟩=some (.int .i64 t.f5)∧w'.cell? ⟨g2,6,none⟩=some (.int .i64 t.f6)∧w'.cell? ⟨g2,7,none⟩=some (.int .i64 t.f7)∧w'.cell? ⟨g2,8,none⟩=some (.int .i64 t.f8)∧w'.cell? ⟨g2,9,none⟩=some (.int .i64 t.f9)∧w'.cell? (ad2.add (i*10))=some (.int .i64 t.f0)∧w'.cell? ⟨(ad2.add (i*10)).block,(ad2.add (i*10)).off+1,none⟩=some (.int .i64 t.f1)∧w'.cell? ⟨(ad2.add (i*10)).block,(ad2.add (i*10)).off+2,none⟩=some (.int .i64 t.f2)∧w'.cell? ⟨(ad2.add (i*10)).block,(ad2.add (i*10)).off+3,none⟩=some (.int .i64 t.f3)∧w'.cell? ⟨(ad2.add (i*10)).block,(ad2.add (i*10)).off+4,none⟩=some (.int .i64 t.f4)∧w'.cell? ⟨(ad2.add (i*10)).block,(ad2.add (i*10)).off+5,none⟩=some (.int .i64 t.f5)∧w'.cell? ⟨(ad2.add (i*10)).block,(ad2.add (i*10)).off+6,none⟩=some (.int .i64 t.f6)∧w'.cell? ⟨(ad2.add (i*10)).block,(ad2.add (i*10)).off+7,none⟩=some (.int .i64 t.f7)∧w'.cell? ⟨(ad2.add (i*10)).block,(ad2.add (i*10)).off+8,none⟩=some (.int .i64 t.f8)∧w'.cell? ⟨(ad2.add (i*10)).block,(ad2.add (i*10)).off+9,none⟩=some (.int .i64 t.f9))
      ((refine HS.out _ ?_;repeat (first|(with_reducible exact S0)|(with_reducible assumption)|(with_reducible apply aV)|(with_reducible apply aN)|(with_reducible apply bf))))
      ((go_at_call 28;(with_reducible refine Calls.mono (RF.out _) ?_);rintro e w13 ⟨rfl,ayH⟩;have ayI:Below W12.heap.size W12 w13:=ak (by repeat (first|(with_reducible exact S0)|(with_reducible assumption)|(with_reducible apply aV)|(with_reducible apply aN)|(with_reducible apply bf))) ayH))
    (try simp only [Exit.inBlock,Exit.then])
    clear y0 y1 y2 y3 y4 y5 y6 y7 y8 y9 q0 q1 q2 q3 q4 q5 q6 q7 q8 q9 x0 x1 x2 x3 x4 x5 x6 x7 x8 x9
    go_wp2
    go_roundg (n - (i+1))
    case measure=>omega
    case rel=>exact ⟨i+1,by simp,by omega,Nat.le_refl _,⟨ak B12.out ayI⟩⟩
end Go.Proofs.YtpondkggmcmpfaaGreatDoor.QA
namespace Go.Proofs.YtpondkggmcmpfaaGreatDoor.QA
open Go.RowKit Go.Proofs.YtpondkggmcmpfaaGreatDoorW.PrintWords Go.Proofs.YtpondkggmcmpfaaGreatDoorW.PrintLast Go.Proofs.YtpondkggmcmpfaaGreatDoorW.PrintMore Go.Proofs.YtpondkggmcmpfaaGreatDoor.T
set_option linter.unusedVariables false
set_option linter.unusedSimpArgs false
section
open Go.ChangeShapes Go.WideShapes Go.ChangeAt
variable {H:Type} {enc:TypeId × Value→H} {W:World} {fuel:Nat} {cs:List Value} {x:DataW H × List MemPlace}
theorem ajA (h:DataW.trod enc Tryz.prog W 0 (fun _=>true) true fuel 44 cs=some x):∃ (A:Option Addr) (l:List Int) (c:Nat),cs=[.slice A l.length c]∧l.length≤c∧Kd.C (Kd.int .i64) W A l.length l∧∀ z ∈ l,I64 z:=by
  rcases open_ints Tryz.underlying44 Tryz.underlying2 (by kernel_rfl) h with ⟨hcs,_⟩|⟨a,len,cap,zs,hcs,_,hl,hm,hz,_,hcell,hwz⟩
  · exact ⟨none,[],0,hcs,by decide,aeH W,by simp⟩
  · have hz:zs.length=cap:=by simpa using hz
    obtain ⟨l,e,h1,h2,h3,h4⟩:=vP.auo (k := .i64) (w:=W) (a:=some a) (len:=len) (cap:=cap) (zs:=zs) (.inr ⟨a,rfl,hl,hm,hz,hcell,hwz⟩)
    subst e
    exact ⟨some a,l,cap,hcs,h4,Kd.anh (d:=(0:Int)) (h1:=fun _=>rfl) h1,fun z hz=>T.wf64 (h3 z hz)⟩
set_option maxRecDepth 100000 in
theorem aua (h:DataW.trod enc Tryz.prog W 0 (fun _=>true) true fuel 47 cs=some x):∃ o:S47,k47.K W o cs∧opI o:=by
  obtain ⟨xs,n,_,rfl,hl,hlen,hf⟩:=DataW.trod_struct Tryz.underlying47 h
  have hl9:cs.length=9:=hl.trans (by kernel_rfl)
  match cs,hl9 with
  | [u0,u1,u2,u3,u4,u5,u6,u7,u8],_ =>
  match xs,hlen with
  | [y0,y1,y2,y3,y4,y5,y6,y7,y8],_ =>
  have c0:Tryz.prog.cellsOf 43=1:=by kernel_rfl
  have c1:Tryz.prog.cellsOf 36=1:=by kernel_rfl
  have c2:Tryz.prog.cellsOf 2=1:=by kernel_rfl
  have c3:Tryz.prog.cellsOf 3=1:=by kernel_rfl
  have c4:Tryz.prog.cellsOf 44=1:=by kernel_rfl
  have c6:Tryz.prog.cellsOf 45=1:=by kernel_rfl
  have g0:DataW.trod enc Tryz.prog W 0 (fun _=>true) true n 43 (([u0,u1,u2,u3,u4,u5,u6,u7,u8].drop 0).take (Tryz.prog.cellsOf 43))=some y0:=hf 0 _ rfl
  have g1:DataW.trod enc Tryz.prog W 0 (fun _=>true) true n 36 (([u0,u1,u2,u3,u4,u5,u6,u7,u8].drop 1).take (Tryz.prog.cellsOf 36))=some y1:=hf 1 _ rfl
  have g2:DataW.trod enc Tryz.prog W 0 (fun _=>true) true n 2 (([u0,u1,u2,u3,u4,u5,u6,u7,u8].drop 2).take (Tryz.prog.cellsOf 2))=some y2:=hf 2 _ rfl
  have g3:DataW.trod enc Tryz.prog W 0 (fun _=>true) true n 3 (([u0,u1,u2,u3,u4,u5,u6,u7,u8].drop 3).take (Tryz.prog.cellsOf 3))=some y3:=hf 3 _ rfl
  have g4:DataW.trod enc Tryz.prog W 0 (fun _=>true) true n 44 (([u0,u1,u2,u3,u4,u5,u6,u7,u8].drop 4).take (Tryz.prog.cellsOf 44))=some y4:=hf 4 _ rfl
  have g5:DataW.trod enc Tryz.prog W 0 (fun _=>true) true n 44 (([u0,u1,u2,u3,u4,u5,u6,u7,u8].drop 5).take (Tryz.prog.cellsOf 44))=some y5:=hf 5 _ rfl
  have g6:DataW.trod enc Tryz.prog W 0 (fun _=>true) true n 45 (([u0,u1,u2,u3,u4,u5,u6,u7,u8].drop 6).take (Tryz.prog.cellsOf 45))=some y6:=hf 6 _ rfl
  have g7:DataW.trod enc Tryz.prog W 0 (fun _=>true) true n 3 (([u0,u1,u2,u3,u4,u5,u6,u7,u8].drop 7).take (Tryz.prog.cellsOf 3))=some y7:=hf 7 _ rfl
  have g8:DataW.trod enc Tryz.prog W 0 (fun _=>true) true n 3 (([u0,u1,u2,u3,u4,u5,u6,u7,u8].drop 8).take (Tryz.prog.cellsOf 3))=some y8:=hf 8 _ rfl
  simp only [c0,c1,c2,c3,c4,c6] at g0 g1 g2 g3 g4 g5 g6 g7 g8
  simp [List.drop,List.take] at g0 g1 g2 g3 g4 g5 g6 g7 g8
  obtain ⟨v0,e0,_,w0⟩:=DataW.trod_int Tryz.underlying43 g0
  obtain ⟨v1,e1,_,w1⟩:=DataW.trod_int Tryz.underlying36 g1
  obtain ⟨v2,e2,_,w2⟩:=DataW.trod_int Tryz.underlying2 g2
  obtain ⟨v3,e3,_,w3⟩:=DataW.trod_int Tryz.underlying3 g3
  obtain ⟨A4,l4,k4,e4,m4,r4,w4⟩:=ajA g4
  obtain ⟨A5,l5,k5,e5,m5,r5,w5⟩:=ajA g5
  obtain ⟨v6,e6,_,w6⟩:=DataW.trod_int Tryz.underlying45 g6
  obtain ⟨v7,e7,_,w7⟩:=DataW.trod_int Tryz.underlying3 g7
  obtain ⟨v8,e8,_,w8⟩:=DataW.trod_int Tryz.underlying3 g8
  simp only [List.cons.injEq,and_true] at e0 e1 e2 e3 e4 e5 e6 e7 e8
  subst e0 e1 e2 e3 e4 e5 e6 e7 e8
  exact ⟨⟨v0,v1,v2,v3,l4,l5,v6,v7,v8⟩,apm W ⟨v0,v1,v2,v3,l4,l5,v6,v7,v8⟩ m4 r4 m5 r5,T.wf64 w0,T.wf64 w1,T.wf64 w2,T.wf64 w3,w4,w5,T.wf64 w6,T.wf64 w7,T.wf64 w8⟩
end
section
open Go.ChangeShapes Go.WideShapes Go.ChangeAt
theorem apW {H:Type} {enc:TypeId × Value→H} {W:World} {cs:Array Value} {d:DataW H} {ps:List MemPlace} (h:DataW.Trod enc Tryz.prog W 0 (fun _=>true) true 47 (.agg cs) d ps):∃ (o:S47) (A4:Option Addr) (c4:Nat) (A5:Option Addr) (c5:Nat),cs = #[.int .i64 o.f0,.int .i64 o.f1,.int .i64 o.f2,.int .i64 o.f3,.slice A4 o.f4.length c4,.slice A5 o.f5.length c5,.int .i64 o.f6,.int .i64 o.f7,.int .i64 o.f8]∧opI o∧Kd.C (Kd.int .i64) W A4 o.f4.length o.f4∧o.f4.length≤c4∧Kd.C (Kd.int .i64) W A5 o.f5.length o.f5∧o.f5.length≤c5:=by
  obtain ⟨fuel,hf⟩:=h
  obtain ⟨us,hus⟩:∃ us:List Value,us=cs.toList:=⟨_,rfl⟩
  have hcs:(Value.agg cs).cells.toList=us:=by rw [hus];rfl
  rw [hcs] at hf
  obtain ⟨o,hK,hI⟩:=aua hf
  obtain ⟨A4,c4,A5,c5,e,l4,g4,l5,g5⟩:=akE hK
  refine ⟨o,A4,c4,A5,c5,?_,hI,g4,l4,g5,l5⟩
  rw [hus] at e
  cases cs with|mk ls=>exact congrArg Array.mk e
end
end Go.Proofs.YtpondkggmcmpfaaGreatDoor.QA
