/- Joined by wip/tools/bundle.py out of: TE. -/
import Derived.Test.YtpondkggmcmpfaaGreatDoorBPlanTiles1
import Derived.Test.YtpondkggmcmpfaaGreatDoorBPlanTiles14
import Derived.Handy
import Derived.Lib.SliceRun
import Derived.Test.YtpondkggmcmpfaaGreatDoorBPlanTiles0
import Derived.Test.YtpondkggmcmpfaaGreatDoorBPlanTiles8
import Derived.Test.YtpondkggmcmpfaaGreatDoorBPlanTiles10
import Derived.Test.YtpondkggmcmpfaaGreatDoorBPlanTiles22
namespace Go.Proofs.YtpondkggmcmpfaaGreatDoor.QA
open Go.RowKit Go.Proofs.YtpondkggmcmpfaaGreatDoorW.PrintWords Go.Proofs.YtpondkggmcmpfaaGreatDoorW.PrintLast Go.Proofs.YtpondkggmcmpfaaGreatDoorW.PrintMore Go.Proofs.YtpondkggmcmpfaaGreatDoor.T
set_option linter.unusedVariables false
set_option linter.unusedSimpArgs false
def okS (n:Int):Prop:=1≤n∧n≤4096
theorem axp {n:Int} (h:okS n):ny.f n=some true:=by rw [aaw];exact congrArg some (decide_eq_true h)
theorem atb {n:Int} (h:¬ okS n):ny.f n=some false:=by rw [aaw];exact congrArg some (decide_eq_false h)
set_option maxHeartbeats 8000000 in
set_option maxRecDepth 100000 in
theorem atZ (bx bz:Nat) (bd tw th:Int) (w:World) (h:¬ (okS tw∧okS th)) :
    Calls Tryz.prog 20 #[.agg #[.pointer (some ⟨bx,0,none⟩),.pointer (some ⟨bz,0,none⟩),.int .i64 bd],.int .i64 tw,.int .i64 th] w fun e w'=>Below w.heap.size w w'∧e = .returned (.tuple #[.pointer none,.int .i64 9]):=by
  by_cases h1:okS tw
  · have s1:=axp h1
    have s2:=atb (fun q=>h ⟨h1,q⟩)
    clear h h1
    go_enter Tryz.func20,Tryz.ntmps20
    go_wp2_with (first
      | (go_at_call 61;(with_reducible refine (ny.calls tw true _ s1).mono ?_);rintro e w' ⟨rfl,⟨nd,rfl⟩⟩)
      | (go_at_call 61;(with_reducible refine (ny.calls th false _ s2).mono ?_);rintro e w' ⟨rfl,⟨nd2,rfl⟩⟩))
    go_ret2
    exact ⟨by repeat (first|(with_reducible first|exact Below.refl _ _|apply aV|apply aN|apply bf)|exact Below.refl _ _),rfl⟩
  · have s1:=atb h1
    clear h h1
    go_enter Tryz.func20,Tryz.ntmps20
    go_wp2_with (go_at_call 61;(with_reducible refine (ny.calls tw false _ s1).mono ?_);rintro e w' ⟨rfl,⟨nd,rfl⟩⟩)
    go_ret2
    exact ⟨by repeat (first|(with_reducible first|exact Below.refl _ _|apply aV|apply aN|apply bf)|exact Below.refl _ _),rfl⟩
theorem afj (w:World):∃ W1 g,W1=w.alloc (.cells #[.int .i64 0,.int .i64 0,.int .i64 0,.int .i64 0,.int .i64 0,.int .i64 0,.int .i64 0,.int .i64 0,.int .i64 0,.int .i64 0] 58)∧g=w.heap.size∧W1.heap[g]? = some (.cells #[.int .i64 0,.int .i64 0,.int .i64 0,.int .i64 0,.int .i64 0,.int .i64 0,.int .i64 0,.int .i64 0,.int .i64 0,.int .i64 0] 58 (0,0))∧Below w.heap.size w W1:=⟨_,_,rfl,rfl,heap_alloc_new w _,aV (Below.refl _ _) _⟩
theorem alV {w:World} {g t:Nat} {v0 v1 v2 v3 v4 v5 v6 v7 v8 v9:Value} (h:w.heap[g]? = some (.cells #[v0,v1,v2,v3,v4,v5,v6,v7,v8,v9] t (0,0))):w.frozen? ⟨g,0,none⟩=false∧w.frozen? ⟨g,1,none⟩=false∧w.frozen? ⟨g,2,none⟩=false∧w.frozen? ⟨g,3,none⟩=false∧w.frozen? ⟨g,4,none⟩=false∧w.frozen? ⟨g,5,none⟩=false∧w.frozen? ⟨g,6,none⟩=false∧w.frozen? ⟨g,7,none⟩=false∧w.frozen? ⟨g,8,none⟩=false∧w.frozen? ⟨g,9,none⟩=false:=⟨aH h 0,aH h 1,aH h 2,aH h 3,aH h 4,aH h 5,aH h 6,aH h 7,aH h 8,aH h 9⟩
theorem atc {w0 w:World} {N g t:Nat} {u0 u1 u2 u3 u4 u5 u6 u7 u8 u9:Value} (h:w.heap[g]? = some (.cells #[u0,u1,u2,u3,u4,u5,u6,u7,u8,u9] t (0,0))) (hb:Below N w0 w) (hN:N≤g) (v0 v1 v2 v3 v4 v5 v6 v7 v8 v9:Value):∃ w6,(((((((((w.setCell ⟨g,0,none⟩ v0).setCell ⟨g,1,none⟩ v1).setCell ⟨g,2,none⟩ v2).setCell ⟨g,3,none⟩ v3).setCell ⟨g,4,none⟩ v4).setCell ⟨g,5,none⟩ v5).setCell ⟨g,6,none⟩ v6).setCell ⟨g,7,none⟩ v7).setCell ⟨g,8,none⟩ v8).setCell ⟨g,9,none⟩ v9=w6∧w6.heap[g]? = some (.cells #[v0,v1,v2,v3,v4,v5,v6,v7,v8,v9] t (0,0))∧Below N w0 w6:=⟨_,rfl,by simpa using (bG (bG (bG (bG (bG (bG (bG (bG (bG (bG h 0 v0) 1 v1) 2 v2) 3 v3) 4 v4) 5 v5) 6 v6) 7 v7) 8 v8) 9 v9),(((((((((hb.setCell (p:=⟨g,0,none⟩) hN v0).setCell (p:=⟨g,1,none⟩) hN v1).setCell (p:=⟨g,2,none⟩) hN v2).setCell (p:=⟨g,3,none⟩) hN v3).setCell (p:=⟨g,4,none⟩) hN v4).setCell (p:=⟨g,5,none⟩) hN v5).setCell (p:=⟨g,6,none⟩) hN v6).setCell (p:=⟨g,7,none⟩) hN v7).setCell (p:=⟨g,8,none⟩) hN v8).setCell (p:=⟨g,9,none⟩) hN v9⟩
set_option maxHeartbeats 8000000 in
set_option maxRecDepth 100000 in
theorem arR (bp bx bz:Nat) (bd tw th:Int) (tx ty:Tab) (i:Int) (w:World) (h:uw w bp bx bz bd tw th tx ty) (B:xG tw th tx ty) (hi:¬ (0≤i∧i < dU tx.lines.length tw*dU ty.lines.length th)) :
    Calls Tryz.prog 27 #[.pointer (some ⟨bp,0,none⟩),.int .i64 i] w fun e w'=>e = .returned (.tuple #[.agg #[.int .i64 0,.int .i64 0,.int .i64 0,.int .i64 0,.int .i64 0,.int .i64 0,.int .i64 0,.int .i64 0,.int .i64 0,.int .i64 0],.bool false])∧Below w.heap.size w w':=by
  have CW:=aj.mk (fun w' (hb:Below w.heap.size w w')=>wM bp bx bz bd tw th tx ty w' (h.below hb) B)
  obtain ⟨n,hn⟩:∃ n,n=dU tx.lines.length tw*dU ty.lines.length th:=⟨_,rfl⟩
  rw [← hn] at CW hi
  have mixed:Tryz.prog.follows .mixedOrders=true:=by kernel_rfl
  obtain ⟨W1,g,e1,hg,h1,hb1⟩:=afj w
  have E1:=aj.mk e1
  have EG:=aj.mk hg
  have H1:=aj.mk h1
  have B1:=aj.mk hb1
  have HG:=aj.mk (show w.heap.size≤g by omega)
  clear h B hn e1 hg h1 hb1
  have hcase:i < 0∨(¬ i < 0∧n≤i):=by omega
  clear hi
  rcases hcase with h0|⟨h0,h2⟩
  · go_enter Tryz.func27,Tryz.ntmps27
    go_upto_region 1 with fail
    rw [← EG.out,← E1.out]
    obtain ⟨y0,y1,y2,y3,y4,y5,y6,y7,y8,y9⟩:=vG H1.out
    obtain ⟨f0,f1,f2,f3,f4,f5,f6,f7,f8,f9⟩:=alV H1.out
    go_wp2
    clear y0 y1 y2 y3 y4 y5 y6 y7 y8 y9 f0 f1 f2 f3 f4 f5 f6 f7 f8 f9
    obtain ⟨w6,e6,hc,B6⟩:=atc H1.out B1.out HG.out (.int .i64 0) (.int .i64 0) (.int .i64 0) (.int .i64 0) (.int .i64 0) (.int .i64 0) (.int .i64 0) (.int .i64 0) (.int .i64 0) (.int .i64 0)
    rw [e6]
    obtain ⟨y0,y1,y2,y3,y4,y5,y6,y7,y8,y9⟩:=vG hc
    refine bodyPost_ret (by simp [results,Tryz.results27,go_sem,y0,y1,y2,y3,y4,y5,y6,y7,y8,y9];try rfl) rfl ?_
    exact ⟨rfl,B6⟩
  · go_enter Tryz.func27,Tryz.ntmps27
    go_upto_region 1 with fail
    rw [← EG.out,← E1.out]
    go_upto_region 2 with (go_at_call 25;(with_reducible refine (CW.out _ B1.out).mono ?_);rintro e w' ⟨rfl,⟨nd,rfl⟩⟩)
    have bd:=aN (Below.refl W1.heap.size W1) nd
    have B2:=aj.mk (ak B1.out bd)
    have H2:=aj.mk (ay H1.out bd)
    clear bd
    generalize W1.drewN nd=w2 at B2 H2 ⊢
    obtain ⟨y0,y1,y2,y3,y4,y5,y6,y7,y8,y9⟩:=vG H2.out
    obtain ⟨f0,f1,f2,f3,f4,f5,f6,f7,f8,f9⟩:=alV H2.out
    go_wp2
    clear y0 y1 y2 y3 y4 y5 y6 y7 y8 y9 f0 f1 f2 f3 f4 f5 f6 f7 f8 f9
    obtain ⟨w6,e6,hc,B6⟩:=atc H2.out B2.out HG.out (.int .i64 0) (.int .i64 0) (.int .i64 0) (.int .i64 0) (.int .i64 0) (.int .i64 0) (.int .i64 0) (.int .i64 0) (.int .i64 0) (.int .i64 0)
    rw [e6]
    obtain ⟨y0,y1,y2,y3,y4,y5,y6,y7,y8,y9⟩:=vG hc
    refine bodyPost_ret (by simp [results,Tryz.results27,go_sem,y0,y1,y2,y3,y4,y5,y6,y7,y8,y9];try rfl) rfl ?_
    exact ⟨rfl,B6⟩
theorem at1 (w:World):∃ W1 g,W1=w.alloc (.cells #[.pointer none,.pointer none,.int .i64 0] 38)∧g=w.heap.size∧W1.heap[g]? = some (.cells #[.pointer none,.pointer none,.int .i64 0] 38 (0,0))∧Below w.heap.size w W1:=⟨_,_,rfl,rfl,heap_alloc_new w _,aV (Below.refl _ _) _⟩
theorem ayF {w0 w:World} {N g t:Nat} {u0 u1 u2:Value} (h:w.heap[g]? = some (.cells #[u0,u1,u2] t (0,0))) (hb:Below N w0 w) (hN:N≤g) (v0 v1 v2:Value):∃ w6,((w.setCell ⟨g,0,none⟩ v0).setCell ⟨g,1,none⟩ v1).setCell ⟨g,2,none⟩ v2=w6∧w6.heap[g]? = some (.cells #[v0,v1,v2] t (0,0))∧Below N w0 w6:=⟨_,rfl,by simpa using (bG (bG (bG h 0 v0) 1 v1) 2 v2),((hb.setCell (p:=⟨g,0,none⟩) hN v0).setCell (p:=⟨g,1,none⟩) hN v1).setCell (p:=⟨g,2,none⟩) hN v2⟩
theorem cellsS {w:World} {g t:Nat} {v0 v1 v2:Value} (h:w.heap[g]? = some (.cells #[v0,v1,v2] t (0,0))):w.cell? ⟨g,0,none⟩=some v0∧w.cell? ⟨g,1,none⟩=some v1∧w.cell? ⟨g,2,none⟩=some v2:=⟨(au h 0).trans rfl,(au h 1).trans rfl,(au h 2).trans rfl⟩
set_option maxHeartbeats 8000000 in
set_option maxRecDepth 100000 in
theorem ah0 (bp bx bz:Nat) (bd tw th:Int) (w:World) (h:w.heap[bp]? = some (ahW bx bz bd tw th)) :
    Calls Tryz.prog 26 #[.pointer (some ⟨bp,0,none⟩)] w fun e w'=>e = .returned (.agg #[.pointer (some ⟨bx,0,none⟩),.pointer (some ⟨bz,0,none⟩),.int .i64 bd])∧Below w.heap.size w w':=by
  obtain ⟨W1,g,e1,hg,h1,hb1⟩:=at1 w
  obtain ⟨c0,c1,c2,-,-⟩:=qm ((hb1.block bp (dJ h)).trans h)
  have E1:=aj.mk e1
  have EG:=aj.mk hg
  have H1:=aj.mk h1
  have B1:=aj.mk hb1
  have HG:=aj.mk (show w.heap.size≤g by omega)
  clear h e1 hg h1 hb1
  go_enter Tryz.func26,Tryz.ntmps26
  go_upto_region 1 with fail
  rw [← EG.out,← E1.out]
  obtain ⟨y0,y1,y2⟩:=cellsS H1.out
  have f0:=aH H1.out 0
  have f1:=aH H1.out 1
  have f2:=aH H1.out 2
  go_wp2
  clear y0 y1 y2 f0 f1 f2 c0 c1 c2
  obtain ⟨w6,e6,hc,B6⟩:=ayF H1.out B1.out HG.out (.pointer (some ⟨bx,0,none⟩)) (.pointer (some ⟨bz,0,none⟩)) (.int .i64 bd)
  rw [e6]
  obtain ⟨y0,y1,y2⟩:=cellsS hc
  refine bodyPost_ret (by simp [results,Tryz.results26,go_sem,y0,y1,y2];try rfl) rfl ?_
  exact ⟨rfl,B6⟩
end Go.Proofs.YtpondkggmcmpfaaGreatDoor.QA
