/- Joined by wip/tools/bundle.py out of: TD. -/
import Derived.Test.YtpondkggmcmpfaaGreatDoorBPlanCovers1
import Derived.Test.YtpondkggmcmpfaaGreatDoorBPlanCovers9
import Derived.Test.YtpondkggmcmpfaaGreatDoorBPlanCovers14
import Derived.Handy
import Derived.Lib.SliceRun
import Derived.Test.YtpondkggmcmpfaaGreatDoorBPlanCovers0
import Derived.Test.YtpondkggmcmpfaaGreatDoorBPlanCovers8
import Derived.BigRegion
import Derived.Test.YtpondkggmcmpfaaGreatDoorBPlanCovers10
import Derived.Test.YtpondkggmcmpfaaGreatDoorBPlanCovers11
import Derived.Test.YtpondkggmcmpfaaGreatDoorBPlanCovers15
import Derived.Test.YtpondkggmcmpfaaGreatDoorBPlanCovers16
import Derived.Test.YtpondkggmcmpfaaGreatDoorBPlanCovers17
import Derived.Test.YtpondkggmcmpfaaGreatDoorBPlanCovers18
import Derived.Test.YtpondkggmcmpfaaGreatDoorBPlanCovers19
import Derived.Test.YtpondkggmcmpfaaGreatDoorBPlanCovers20
namespace Go.Proofs.YtpondkggmcmpfaaGreatDoor.QA
open Go.RowKit Go.Proofs.YtpondkggmcmpfaaGreatDoorW.PrintWords Go.Proofs.YtpondkggmcmpfaaGreatDoorW.PrintLast Go.Proofs.YtpondkggmcmpfaaGreatDoorW.PrintMore Go.Proofs.YtpondkggmcmpfaaGreatDoor.T
set_option linter.unusedVariables false
set_option linter.unusedSimpArgs false
theorem am7 {w:World} {v0 v1 v2 v3 v4 v5 v6 v7 v8:Value}:∃ W3 g,W3=((w.alloc (.cells #[v0,v1,v2,v3,v4,v5,v6,v7,v8] 47)).alloc (.cells #[.pointer none,.pointer none,.int .i64 0] 38)).alloc (.cells #[.slice none 0 0,.slice none 0 0,.int .i64 0,.int .i64 0,.int .i64 0] 41)∧g=w.heap.size∧W3.heap[g]? = some (.cells #[v0,v1,v2,v3,v4,v5,v6,v7,v8] 47 (0,0))∧W3.heap[g+1]? = some (.cells #[.pointer none,.pointer none,.int .i64 0] 38 (0,0))∧W3.heap[g+2]? = some (.cells #[.slice none 0 0,.slice none 0 0,.int .i64 0,.int .i64 0,.int .i64 0] 41 (0,0))∧Below w.heap.size w W3:=by
  refine ⟨_,_,rfl,rfl,?_,?_,?_,aT (aT (aT (Below.refl w.heap.size w) _) _) _⟩
  · rw [rF _ _ _ (by simp only [acJ];omega),rF _ _ _ (by simp)];exact heap_alloc_new w _
  · rw [rF _ _ _ (by simp)];exact yL _ _ _ (by simp)
  · exact yL _ _ _ (by simp)
theorem aaz {w:World} {g:Nat} {x:Obj} {o:Obj} (h:w.heap[g]? = some x):(w.alloc o).heap[g]? = some x:=(aT (Below.refl w.heap.size w) o).block g (dJ h) |>.trans h
theorem ahY {w:World} {g t:Nat} {v0 v1 v2:Value} (h:w.heap[g]? = some (.cells #[v0,v1,v2] t (0,0))):w.frozen? ⟨g,0,none⟩=false∧w.frozen? ⟨g,1,none⟩=false∧w.frozen? ⟨g,2,none⟩=false:=⟨aN h 0,aN h 1,aN h 2⟩
theorem ap4 {w0 w:World} {N g t1 t2:Nat} {a0 a1 a2 u0 u1 u2 u3 u4:Value} (h1:w.heap[g+1]? = some (.cells #[a0,a1,a2] t1 (0,0))) (h2:w.heap[g+2]? = some (.cells #[u0,u1,u2,u3,u4] t2 (0,0))) (hb:Below N w0 w) (hN:N≤g) (x0 x1 x2 y0 y1 y2 y3 y4:Value) :
    ∃ w6,((((((((w.setCell ⟨g+1,0,none⟩ x0).setCell ⟨g+1,1,none⟩ x1).setCell ⟨g+1,2,none⟩ x2).setCell ⟨g+2,0,none⟩ y0).setCell ⟨g+2,1,none⟩ y1).setCell ⟨g+2,2,none⟩ y2).setCell ⟨g+2,3,none⟩ y3).setCell ⟨g+2,4,none⟩ y4)=w6∧w6.heap[g+1]? = some (.cells #[x0,x1,x2] t1 (0,0))∧w6.heap[g+2]? = some (.cells #[y0,y1,y2,y3,y4] t2 (0,0))∧Below N w0 w6∧(∀ base b t,qQ w base b t→g+2 < base→qQ w6 base b t)∧∀ base v xs,mP w base v xs→g+2 < base→mP w6 base v xs:=by
  have n1:N≤g+1:=by omega
  have n2:N≤g+2:=by omega
  have ne:g+1≠g+2:=by omega
  have k1:=bP (bP (bP h1 0 x0) 1 x1) 2 x2
  have k2:=iI (p:=⟨g+1,2,none⟩) (iI (p:=⟨g+1,1,none⟩) (iI (p:=⟨g+1,0,none⟩) h2 ne.symm x0) ne.symm x1) ne.symm x2
  refine ⟨_,rfl,?_,?_,?_,?_,?_⟩
  · have:=iI (p:=⟨g+2,4,none⟩) (iI (p:=⟨g+2,3,none⟩) (iI (p:=⟨g+2,2,none⟩) (iI (p:=⟨g+2,1,none⟩) (iI (p:=⟨g+2,0,none⟩) k1 ne y0) ne y1) ne y2) ne y3) ne y4
    simpa using this
  · have:=bP (bP (bP (bP (bP k2 0 y0) 1 y1) 2 y2) 3 y3) 4 y4
    simpa using this
  · exact (((((((hb.setCell (p:=⟨g+1,0,none⟩) n1 x0).setCell (p:=⟨g+1,1,none⟩) n1 x1).setCell (p:=⟨g+1,2,none⟩) n1 x2).setCell (p:=⟨g+2,0,none⟩) n2 y0).setCell (p:=⟨g+2,1,none⟩) n2 y1).setCell (p:=⟨g+2,2,none⟩) n2 y2).setCell (p:=⟨g+2,3,none⟩) n2 y3).setCell (p:=⟨g+2,4,none⟩) n2 y4
  · intro base b t h hl
    have l1:g+1 < base:=by omega
    exact (((((((h.far (p:=⟨g+1,0,none⟩) l1 x0).far (p:=⟨g+1,1,none⟩) l1 x1).far (p:=⟨g+1,2,none⟩) l1 x2).far (p:=⟨g+2,0,none⟩) hl y0).far (p:=⟨g+2,1,none⟩) hl y1).far (p:=⟨g+2,2,none⟩) hl y2).far (p:=⟨g+2,3,none⟩) hl y3).far (p:=⟨g+2,4,none⟩) hl y4
  · intro base v xs h hl
    have l1:g+1 < base:=by omega
    exact (((((((h.far l1).far l1).far l1).far hl).far hl).far hl).far hl).far hl
def am8 (o:S47) (W H:Int) (w:World) (e:Ending) (w':World):Prop:=Below w.heap.size w w'∧∃ bx bz A1 k1 A2 k2,e = .returned (.tuple #[.agg #[.pointer (some ⟨bx,0,none⟩),.pointer (some ⟨bz,0,none⟩),.int .i64 o.f1],.agg #[.slice A1 ((nR o W).lines.map toR).length k1,.slice A2 ((nS o H).lines.map toR).length k2,.int .i64 W,.int .i64 H,.int .i64 o.f1],.bool true])∧wB w' bx (nR o W)∧wB w' bz (nS o H)∧((nR o W).lines.map toR).length≤k1∧Kd.C aaP w' A1 ((nR o W).lines.map toR).length ((nR o W).lines.map toR)∧((nS o H).lines.map toR).length≤k2∧Kd.C aaP w' A2 ((nS o H).lines.map toR).length ((nS o H).lines.map toR)
def am9 (w:World) (e:Ending) (w':World):Prop:=Below w.heap.size w w'∧e = .returned (.tuple #[.agg #[.pointer none,.pointer none,.int .i64 0],.agg #[.slice none 0 0,.slice none 0 0,.int .i64 0,.int .i64 0,.int .i64 0],.bool false])
set_option maxHeartbeats 8000000 in
set_option maxRecDepth 100000 in
theorem aky (o:S47) (A4:Option Addr) (c4:Nat) (A5:Option Addr) (c5:Nat) (wd ht:Int) (hw:0≤wd∧wd≤255) (hh:0≤ht∧ht≤255) (w:World) (hG:GL w) (hI:opI o) (hx:Kd.C (Kd.int .i64) w A4 o.f4.length o.f4) (lx:o.f4.length≤c4) (hy:Kd.C (Kd.int .i64) w A5 o.f5.length o.f5) (ly:o.f5.length≤c5) :
    Calls Tryz.prog 19 #[opV o.f0 o.f1 o.f2 o.f3 A4 o.f4.length c4 A5 o.f5.length c5 o.f6 o.f7 o.f8,.int .u8 wd,.int .u8 ht] w (if yC [o] 20=true∧je o (1+wd % 20) (1+ht % 20)=0 then am8 o (1+wd % 20) (1+ht % 20) w else am9 w):=by
  have LL:=aj.mk (fun (h:yC [o] 20=true)=>show vW o 20 from afk h 0 (by simp))
  obtain ⟨lb,hl⟩:∃ b,b=yC [o] 20:=⟨_,rfl⟩
  have LT:aj (∀ w',Below w.heap.size w w'→Calls Tryz.prog 13 #[.slice (some ⟨w'.heap.size,0,none⟩) 1 1,.int .i64 20] (w'.alloc (.cells #[.int .i64 o.f0,.int .i64 o.f1,.int .i64 o.f2,.int .i64 o.f3,.slice A4 o.f4.length c4,.slice A5 o.f5.length c5,.int .i64 o.f6,.int .i64 o.f7,.int .i64 o.f8] 47)) (fun e w''=>e = .returned (.bool lb)∧Below (w'.alloc (.cells #[.int .i64 o.f0,.int .i64 o.f1,.int .i64 o.f2,.int .i64 o.f3,.slice A4 o.f4.length c4,.slice A5 o.f5.length c5,.int .i64 o.f6,.int .i64 o.f7,.int .i64 o.f8] 47)).heap.size (w'.alloc (.cells #[.int .i64 o.f0,.int .i64 o.f1,.int .i64 o.f2,.int .i64 o.f3,.slice A4 o.f4.length c4,.slice A5 o.f5.length c5,.int .i64 o.f6,.int .i64 o.f7,.int .i64 o.f8] 47)) w'')):=⟨fun w' hb=>by rw [hl];exact akv [o] (some ⟨w'.heap.size,0,none⟩) 1 20 _ (au2 w' o A4 c4 A5 c5 (Kd.bY hx hb) lx (Kd.bY hy hb) ly) (by simp)⟩
  have MK:=aj.mk (fun (l4:o.f4.length < 4611686018427387904) (l5:o.f5.length < 4611686018427387904) w' (hb:Below w.heap.size w w')=>make_is o (1+wd % 20) (1+ht % 20) A4 c4 A5 c5 w' (hG.below hb) hI (Kd.bY hx hb) lx (Kd.bY hy hb) ly l4 l5)
  have RM:=aj.mk (fun (l4:o.f4.length < 4611686018427387904) (l5:o.f5.length < 4611686018427387904) w' (hb:Below w.heap.size w w')=>amX o (1+wd % 20) (1+ht % 20) A4 c4 A5 c5 w' hI (Kd.bY hx hb) lx (Kd.bY hy hb) ly l4 l5)
  have RF:=aj.mk (fun w'=>ak5 o.f0 o.f1 o.f2 o.f3 A4 o.f4.length c4 A5 o.f5.length c5 o.f6 o.f7 o.f8 w')
  unfold aeU agv acZ at MK
  unfold aay at RM
  unfold am8 am9
  obtain ⟨c,hc⟩:∃ x,x=je o (1+wd % 20) (1+ht % 20):=⟨_,rfl⟩
  obtain ⟨tx,htx⟩:∃ x,x=nR o (1+wd % 20):=⟨_,rfl⟩
  obtain ⟨ty,hty⟩:∃ x,x=nS o (1+ht % 20):=⟨_,rfl⟩
  rw [← hl] at LL ⊢
  rw [← hc,← htx,← hty] at MK RM ⊢
  obtain ⟨l1,hl1⟩:∃ l,l=tx.lines.map toR:=⟨_,rfl⟩
  obtain ⟨l2,hl2⟩:∃ l,l=ty.lines.map toR:=⟨_,rfl⟩
  rw [← hl1,← hl2] at RM ⊢
  have MK2:aj (lb=true→∀ w',Below w.heap.size w w'→_):=⟨fun h w' hb=>MK.out (by have:=(LL.out h).1;omega) (by have:=(LL.out h).2.1;omega) w' hb⟩
  have RM2:aj (lb=true→∀ w',Below w.heap.size w w'→_):=⟨fun h w' hb=>RM.out (by have:=(LL.out h).1;omega) (by have:=(LL.out h).2.1;omega) w' hb⟩
  clear MK RM LL
  obtain ⟨p,hp⟩:∃ x,x=o.f4.length:=⟨_,rfl⟩
  obtain ⟨q,hq⟩:∃ x,x=o.f5.length:=⟨_,rfl⟩
  rw [← hp,← hq] at MK2 RM2 RF LT ⊢
  clear hl hG hI hx lx hy ly hc htx hty hp hq hl1 hl2
  obtain ⟨k,b,s,r,x4,x5,f,ow,oh⟩:=o
  simp only at *
  obtain ⟨W3,g,e3,hg,h1,h2,h3,hb3⟩:=am7 (w:=w) (v0 := .int .i64 k) (v1 := .int .i64 b) (v2 := .int .i64 s) (v3 := .int .i64 r) (v4 := .slice A4 p c4) (v5 := .slice A5 q c5) (v6 := .int .i64 f) (v7 := .int .i64 ow) (v8 := .int .i64 oh)
  have E3:=aj.mk e3
  have EG:=aj.mk hg
  have H1:=aj.mk h1
  have S1:=aj.mk h2
  have R1:=aj.mk h3
  have BX:=aj.mk hb3
  have HG:=aj.mk (show w.heap.size≤g by omega)
  clear e3 hg h1 h2 h3 hb3
  have mixed:Tryz.prog.follows .mixedOrders=true:=by kernel_rfl
  unfold opV at *
  cases lb
  · rw [if_neg (fun h=>absurd h.1 (by decide))]
    clear MK2 RM2 RF
    go_enter Tryz.func19,Tryz.ntmps19
    go_upto_region 1 with fail
    rw [← EG.out,← E3.out]
    obtain ⟨z0,z1,z2,z3,z4,z5,z6,z7,z8⟩:=cells9 H1.out
    go_upto_region 2 with (go_at_call 13;(with_reducible refine (LT.out _ BX.out).mono ?_);rintro e w3 ⟨rfl,hb1⟩;have B3:=aj.mk (ak (aT BX.out _) hb1);have S3:=aj.mk (ay (aaz S1.out) hb1);have R3:=aj.mk (ay (aaz R1.out) hb1);clear hb1)
    clear z0 z1 z2 z3 z4 z5 z6 z7 z8
    obtain ⟨u0,u1,u2⟩:=cells3 S3.out
    obtain ⟨y0,y1,y2,y3,y4⟩:=cells5 R3.out
    obtain ⟨fa,fb,fc⟩:=ahY S3.out
    obtain ⟨fd,fe,ff,fg,fh⟩:=qX R3.out
    go_wp2
    clear u0 u1 u2 y0 y1 y2 y3 y4 fa fb fc fd fe ff fg fh
    obtain ⟨w6,e6,hc1,hc2,B6,-,-⟩:=ap4 S3.out R3.out B3.out HG.out (.pointer none) (.pointer none) (.int .i64 0) (.slice none 0 0) (.slice none 0 0) (.int .i64 0) (.int .i64 0) (.int .i64 0)
    rw [e6]
    obtain ⟨u0,u1,u2⟩:=cells3 hc1
    obtain ⟨y0,y1,y2,y3,y4⟩:=cells5 hc2
    refine bodyPost_ret (by simp [results,Tryz.results19,go_sem,u0,u1,u2,y0,y1,y2,y3,y4];try rfl) rfl ?_
    exact ⟨B6,rfl⟩
  have MK:=aj.mk (MK2.out rfl)
  have RM:=aj.mk (RM2.out rfl)
  clear MK2 RM2
  by_cases hc:c=0
  rotate_left
  · rw [if_neg (fun h=>hc h.2)]
    simp only [if_neg hc] at MK RM
    have bc1:(c == 0)=false:=by simpa using hc
    clear hc
    go_enter Tryz.func19,Tryz.ntmps19
    go_upto_region 1 with fail
    rw [← EG.out,← E3.out]
    obtain ⟨z0,z1,z2,z3,z4,z5,z6,z7,z8⟩:=cells9 H1.out
    go_upto_region 3 with (go_at_call 13;(with_reducible refine (LT.out _ BX.out).mono ?_);rintro e w3 ⟨rfl,hb1⟩;have B3:=aj.mk (ak (aT BX.out _) hb1);have H3:=aj.mk (ay (aaz H1.out) hb1);have S3:=aj.mk (ay (aaz S1.out) hb1);have R3:=aj.mk (ay (aaz R1.out) hb1);clear hb1)
    have R3l:=aj.mk (dJ R3.out)
    clear z0 z1 z2 z3 z4 z5 z6 z7 z8
    obtain ⟨z0,z1,z2,z3,z4,z5,z6,z7,z8⟩:=cells9 H3.out
    go_upto_region 4 with (go_at_call 51;(with_reducible refine (MK.out _ B3.out).mono ?_);rintro e w4 ⟨hb1,rfl⟩;have B4:=aj.mk (ak B3.out hb1);have H4:=aj.mk (ay H3.out hb1);have S4:=aj.mk (ay S3.out hb1);have R4:=aj.mk (ay R3.out hb1);clear hb1)
    have ba:=aT (Below.refl w4.heap.size w4) (.cells #[.pointer none,.pointer none,.int .i64 0] 38)
    have hat:=heap_alloc_new w4 (.cells #[.pointer none,.pointer none,.int .i64 0] 38)
    have B5:=aj.mk (ak B4.out ba)
    have H5:=aj.mk (ay H4.out ba)
    have S5:=aj.mk (ay S4.out ba)
    have R5:=aj.mk (ay R4.out ba)
    obtain ⟨r1,hr1⟩:∃ r,r=w4.heap.size:=⟨_,rfl⟩
    rw [← hr1] at hat ⊢
    have R4b:=aj.mk (show g+2 < r1 by rw [hr1];exact dJ R4.out)
    clear hr1 ba B4 H4 S4 R4 z0 z1 z2 z3 z4 z5 z6 z7 z8
    generalize w4.alloc (.cells #[.pointer none,.pointer none,.int .i64 0] 38)=w5 at hat B5 H5 S5 R5 ⊢
    have T5:=aj.mk hat
    clear hat
    obtain ⟨z0,z1,z2,z3,z4,z5,z6,z7,z8⟩:=cells9 H5.out
    go_upto_region 5 with (first
      | (go_at_call 59;(with_reducible refine (RF.out _).mono ?_);rintro e w6 ⟨rfl,hb1⟩;have B6:=aj.mk (ak B5.out hb1);have S6:=aj.mk (ay S5.out hb1);have R6b:=aj.mk (ay R5.out hb1);have R6:=aj.mk (dJ R6b.out);have T6:=aj.mk (ay T5.out hb1);clear hb1)
      | (go_at_call 57;(with_reducible refine (RM.out _ B6.out).mono ?_);rintro e w7 ⟨hb1,rfl⟩;have B7:=aj.mk (ak B6.out hb1);have S7:=aj.mk (ay S6.out hb1);have R7:=aj.mk (ay R6b.out hb1);have T7:=aj.mk (ay T6.out hb1);clear hb1))
    have ba:=aT (Below.refl w7.heap.size w7) (.cells #[.slice none 0 0,.slice none 0 0,.int .i64 0,.int .i64 0,.int .i64 0] 41)
    have hat:=heap_alloc_new w7 (.cells #[.slice none 0 0,.slice none 0 0,.int .i64 0,.int .i64 0,.int .i64 0] 41)
    have B8:=aj.mk (ak B7.out ba)
    have S8:=aj.mk (ay S7.out ba)
    have R8:=aj.mk (ay R7.out ba)
    have T8:=aj.mk (ay T7.out ba)
    obtain ⟨r2,hr2⟩:∃ r,r=w7.heap.size:=⟨_,rfl⟩
    rw [← hr2] at hat ⊢
    have R7b:=aj.mk (show g+2 < r2 by rw [hr2];exact dJ R7.out)
    clear hr2 ba B7 S7 R7 T7 z0 z1 z2 z3 z4 z5 z6 z7 z8
    generalize w7.alloc (.cells #[.slice none 0 0,.slice none 0 0,.int .i64 0,.int .i64 0,.int .i64 0] 41)=w8 at hat B8 S8 R8 T8 ⊢
    obtain ⟨q0,q1,q2⟩:=cells3 T8.out
    obtain ⟨q3,q4,q5,q6,q7⟩:=cells5 hat
    clear hat
    obtain ⟨u0,u1,u2⟩:=cells3 S8.out
    obtain ⟨y0,y1,y2,y3,y4⟩:=cells5 R8.out
    obtain ⟨fa,fb,fc⟩:=ahY S8.out
    obtain ⟨fd,fe,ff,fg,fh⟩:=qX R8.out
    have na:¬ g+1=r1:=by have:=R4b.out;omega
    have nb:¬ g+2=r1:=by have:=R4b.out;omega
    have nc:¬ g+1=r2:=by have:=R7b.out;omega
    have nd:¬ g+2=r2:=by have:=R7b.out;omega
    have ne:¬ r1=g+1:=by have:=R4b.out;omega
    have nf:¬ r1=g+2:=by have:=R4b.out;omega
    have ng:¬ r2=g+1:=by have:=R7b.out;omega
    have nh:¬ r2=g+2:=by have:=R7b.out;omega
    go_region
    clear na nb nc nd ne nf ng nh q0 q1 q2 q3 q4 q5 q6 q7 u0 u1 u2 y0 y1 y2 y3 y4 fa fb fc fd fe ff fg fh
    go_wp2
    obtain ⟨w10,e6,hc1,hc2,B10,-,-⟩:=ap4 S8.out R8.out B8.out HG.out (.pointer none) (.pointer none) (.int .i64 0) (.slice none 0 0) (.slice none 0 0) (.int .i64 0) (.int .i64 0) (.int .i64 0)
    rw [e6]
    obtain ⟨u0,u1,u2⟩:=cells3 hc1
    obtain ⟨y0,y1,y2,y3,y4⟩:=cells5 hc2
    refine bodyPost_ret (by simp [results,Tryz.results19,go_sem,u0,u1,u2,y0,y1,y2,y3,y4];try rfl) rfl ?_
    exact ⟨bg B10,rfl⟩
  · rw [if_pos ⟨rfl,hc⟩]
    simp only [if_pos hc] at MK RM
    subst hc
    go_enter Tryz.func19,Tryz.ntmps19
    go_upto_region 1 with fail
    rw [← EG.out,← E3.out]
    obtain ⟨z0,z1,z2,z3,z4,z5,z6,z7,z8⟩:=cells9 H1.out
    go_upto_region 3 with (go_at_call 13;(with_reducible refine (LT.out _ BX.out).mono ?_);rintro e w3 ⟨rfl,hb1⟩;have B3:=aj.mk (ak (aT BX.out _) hb1);have H3:=aj.mk (ay (aaz H1.out) hb1);have S3:=aj.mk (ay (aaz S1.out) hb1);have R3:=aj.mk (ay (aaz R1.out) hb1);clear hb1)
    have R3l:=aj.mk (dJ R3.out)
    clear z0 z1 z2 z3 z4 z5 z6 z7 z8
    obtain ⟨z0,z1,z2,z3,z4,z5,z6,z7,z8⟩:=cells9 H3.out
    go_upto_region 4 with (go_at_call 51;(with_reducible refine (MK.out _ B3.out).mono ?_);rintro e w4 ⟨hb1,bx,bz,rfl,hx,hy⟩;have B4:=aj.mk (ak B3.out hb1);have H4:=aj.mk (ay H3.out hb1);have S4:=aj.mk (ay S3.out hb1);have R4:=aj.mk (ay R3.out hb1);have X4:=aj.mk hx;have Y4:=aj.mk hy;clear hx hy;clear hb1)
    have ba:=aT (Below.refl w4.heap.size w4) (.cells #[.pointer (some ⟨bx,0,none⟩),.pointer (some ⟨bz,0,none⟩),.int .i64 b] 38)
    have hat:=heap_alloc_new w4 (.cells #[.pointer (some ⟨bx,0,none⟩),.pointer (some ⟨bz,0,none⟩),.int .i64 b] 38)
    have B5:=aj.mk (ak B4.out ba)
    have H5:=aj.mk (ay H4.out ba)
    have S5:=aj.mk (ay S4.out ba)
    have R5:=aj.mk (ay R4.out ba)
    have X5:=aj.mk (X4.out.below ba)
    have Y5:=aj.mk (Y4.out.below ba)
    obtain ⟨r1,hr1⟩:∃ r,r=w4.heap.size:=⟨_,rfl⟩
    rw [← hr1] at hat ⊢
    have R4b:=aj.mk (show g+2 < r1 by rw [hr1];exact dJ R4.out)
    clear hr1 ba B4 H4 S4 R4 z0 z1 z2 z3 z4 z5 z6 z7 z8
    generalize w4.alloc (.cells #[.pointer (some ⟨bx,0,none⟩),.pointer (some ⟨bz,0,none⟩),.int .i64 b] 38)=w5 at hat B5 H5 S5 R5 X5 Y5 ⊢
    have T5:=aj.mk hat
    clear hat
    obtain ⟨z0,z1,z2,z3,z4,z5,z6,z7,z8⟩:=cells9 H5.out
    go_upto_region 5 with (first
      | (go_at_call 59;(with_reducible refine (RF.out _).mono ?_);rintro e w6 ⟨rfl,hb1⟩;have B6:=aj.mk (ak B5.out hb1);have S6:=aj.mk (ay S5.out hb1);have R6b:=aj.mk (ay R5.out hb1);have R6:=aj.mk (dJ R6b.out);have T6:=aj.mk (ay T5.out hb1);have X6:=aj.mk (X5.out.below hb1);have Y6:=aj.mk (Y5.out.below hb1);clear hb1)
      | (go_at_call 57;(with_reducible refine (RM.out _ B6.out).mono ?_);rintro e w7 ⟨hb1,_,_,rfl,hx,hy⟩;have B7:=aj.mk (ak B6.out hb1);have S7:=aj.mk (ay S6.out hb1);have R7:=aj.mk (ay R6b.out hb1);have T7:=aj.mk (ay T6.out hb1);have X7:=aj.mk (X6.out.below hb1);have Y7:=aj.mk (Y6.out.below hb1);obtain ⟨A1,k1,rfl,-,-⟩:=hx.slice;obtain ⟨A2,k2,rfl,-,-⟩:=hy.slice;have V7:=aj.mk hx;have U7:=aj.mk hy;clear hx hy;clear hb1))
    have ba:=aT (Below.refl w7.heap.size w7) (.cells #[.slice A1 l1.length k1,.slice A2 l2.length k2,.int .i64 (1+wd % 20),.int .i64 (1+ht % 20),.int .i64 b] 41)
    have hat:=heap_alloc_new w7 (.cells #[.slice A1 l1.length k1,.slice A2 l2.length k2,.int .i64 (1+wd % 20),.int .i64 (1+ht % 20),.int .i64 b] 41)
    have B8:=aj.mk (ak B7.out ba)
    have S8:=aj.mk (ay S7.out ba)
    have R8:=aj.mk (ay R7.out ba)
    have T8:=aj.mk (ay T7.out ba)
    have X8:=aj.mk (X7.out.below ba)
    have Y8:=aj.mk (Y7.out.below ba)
    have V8:=aj.mk (V7.out.below ba)
    have U8:=aj.mk (U7.out.below ba)
    obtain ⟨r2,hr2⟩:∃ r,r=w7.heap.size:=⟨_,rfl⟩
    rw [← hr2] at hat ⊢
    have R7b:=aj.mk (show g+2 < r2 by rw [hr2];exact dJ R7.out)
    clear hr2 ba B7 S7 R7 T7 z0 z1 z2 z3 z4 z5 z6 z7 z8
    generalize w7.alloc (.cells #[.slice A1 l1.length k1,.slice A2 l2.length k2,.int .i64 (1+wd % 20),.int .i64 (1+ht % 20),.int .i64 b] 41)=w8 at hat B8 S8 R8 T8 X8 Y8 V8 U8 ⊢
    obtain ⟨q0,q1,q2⟩:=cells3 T8.out
    obtain ⟨q3,q4,q5,q6,q7⟩:=cells5 hat
    clear hat
    obtain ⟨u0,u1,u2⟩:=cells3 S8.out
    obtain ⟨y0,y1,y2,y3,y4⟩:=cells5 R8.out
    obtain ⟨fa,fb,fc⟩:=ahY S8.out
    obtain ⟨fd,fe,ff,fg,fh⟩:=qX R8.out
    have na:¬ g+1=r1:=by have:=R4b.out;omega
    have nb:¬ g+2=r1:=by have:=R4b.out;omega
    have nc:¬ g+1=r2:=by have:=R7b.out;omega
    have nd:¬ g+2=r2:=by have:=R7b.out;omega
    have ne:¬ r1=g+1:=by have:=R4b.out;omega
    have nf:¬ r1=g+2:=by have:=R4b.out;omega
    have ng:¬ r2=g+1:=by have:=R7b.out;omega
    have nh:¬ r2=g+2:=by have:=R7b.out;omega
    go_region
    clear na nb nc nd ne nf ng nh q0 q1 q2 q3 q4 q5 q6 q7 u0 u1 u2 y0 y1 y2 y3 y4 fa fb fc fd fe ff fg fh
    go_wp2
    obtain ⟨w10,e6,hc1,hc2,B10,hT,hR⟩:=ap4 S8.out R8.out B8.out HG.out (.pointer (some ⟨bx,0,none⟩)) (.pointer (some ⟨bz,0,none⟩)) (.int .i64 b) (.slice A1 l1.length k1) (.slice A2 l2.length k2) (.int .i64 (1+wd % 20)) (.int .i64 (1+ht % 20)) (.int .i64 b)
    rw [e6]
    obtain ⟨u0,u1,u2⟩:=cells3 hc1
    obtain ⟨y0,y1,y2,y3,y4⟩:=cells5 hc2
    refine bodyPost_ret (by simp [results,Tryz.results19,go_sem,u0,u1,u2,y0,y1,y2,y3,y4];try rfl) rfl ?_
    obtain ⟨A1',k1',h1,m1,g1⟩:=(hR _ _ _ V8.out R6.out).slice
    obtain ⟨A2',k2',h2,m2,g2⟩:=(hR _ _ _ U8.out R6.out).slice
    cases h1
    cases h2
    have bd:=bg (Below.refl w10.heap.size w10)
    exact ⟨bg B10,bx,bz,A1,k1,A2,k2,rfl,(hT _ _ _ X8.out R3l.out).reads.below bd,(hT _ _ _ Y8.out R3l.out).reads.below bd,m1,Kd.bY g1 bd,m2,Kd.bY g2 bd⟩
end Go.Proofs.YtpondkggmcmpfaaGreatDoor.QA
