/- Joined by wip/tools/bundle.py out of: TB TG. -/
import Derived.Test.YtpondkggmcmpfaaGreatDoorBPlanCovers1
import Derived.Test.YtpondkggmcmpfaaGreatDoorBPlanCovers14
import Derived.Handy
import Derived.Lib.SliceRun
import Derived.Test.YtpondkggmcmpfaaGreatDoorBPlanCovers0
import Derived.Test.YtpondkggmcmpfaaGreatDoorBPlanCovers8
import Derived.Test.YtpondkggmcmpfaaGreatDoorBPlanCovers10
namespace Go.Proofs.YtpondkggmcmpfaaGreatDoor.QA
open Go.RowKit Go.Proofs.YtpondkggmcmpfaaGreatDoorW.PrintWords Go.Proofs.YtpondkggmcmpfaaGreatDoorW.PrintLast Go.Proofs.YtpondkggmcmpfaaGreatDoorW.PrintMore Go.Proofs.YtpondkggmcmpfaaGreatDoor.T
set_option linter.unusedVariables false
set_option linter.unusedSimpArgs false
theorem aer (n:Int):rU.f n=some (decide (1≤n∧n≤4096)):=by
  unfold rU.f
  by_cases h:n≥1
  · rw [if_pos h];congr 1;by_cases c:n≤4096
    · rw [decide_eq_true c,decide_eq_true ⟨h,c⟩]
    · rw [decide_eq_false c,decide_eq_false (fun q=>c q.2)]
  · rw [if_neg h];congr 1;rw [decide_eq_false (fun q=>h q.1)]
def ajb (bx bz:Nat) (bd tw th:Int):Obj := .cells #[.pointer (some ⟨bx,0,none⟩),.pointer (some ⟨bz,0,none⟩),.int .i64 bd,.int .i64 tw,.int .i64 th] 119 (0,0)
set_option maxHeartbeats 8000000 in
set_option maxRecDepth 100000 in
theorem an0 (bx bz:Nat) (bd tw th:Int) (w:World) (h1:1≤tw∧tw≤4096) (h2:1≤th∧th≤4096) :
    Calls Tryz.prog 20 #[.agg #[.pointer (some ⟨bx,0,none⟩),.pointer (some ⟨bz,0,none⟩),.int .i64 bd],.int .i64 tw,.int .i64 th] w fun e w'=>Below w.heap.size w w'∧∃ bp,e = .returned (.tuple #[.pointer (some ⟨bp,0,none⟩),.int .i64 0])∧w'.heap[bp]? = some (ajb bx bz bd tw th):=by
  have s1:rU.f tw=some true:=by rw [aer,decide_eq_true h1]
  have s2:rU.f th=some true:=by rw [aer,decide_eq_true h2]
  clear h1 h2
  go_enter Tryz.func20,Tryz.ntmps20
  go_wp2_with (first
    | (go_at_call 61;(with_reducible refine (rU.calls tw true _ s1).mono ?_);rintro e w' ⟨rfl,⟨nd,rfl⟩⟩)
    | (go_at_call 61;(with_reducible refine (rU.calls th true _ s2).mono ?_);rintro e w' ⟨rfl,⟨nd2,rfl⟩⟩))
  go_ret2
  refine ⟨by repeat (first|(with_reducible first|exact Below.refl _ _|apply aT|apply aI|apply bg)|exact Below.refl _ _),w.heap.size+1,rfl,?_⟩
  have q:=heap_alloc_new ((w.alloc (.cells #[.pointer (some ⟨bx,0,none⟩),.pointer (some ⟨bz,0,none⟩),.int .i64 bd] 38 (0,0))).drewN (nd+nd2)) (ajb bx bz bd tw th)
  rwa [show ((w.alloc (.cells #[.pointer (some ⟨bx,0,none⟩),.pointer (some ⟨bz,0,none⟩),.int .i64 bd] 38 (0,0))).drewN (nd+nd2)).heap.size=w.heap.size+1 from by rw [World.heap_drewN,World.alloc];exact Array.size_push _] at q
def qM (w:World) (bp bx bz:Nat) (bd tw th:Int) (tx ty:Tab):Prop:=w.heap[bp]? = some (ajb bx bz bd tw th)∧wB w bx tx∧wB w bz ty
theorem qM.below {w w':World} {bp bx bz:Nat} {bd tw th:Int} {tx ty:Tab} (h:qM w bp bx bz bd tw th tx ty) (hb:Below w.heap.size w w'):qM w' bp bx bz bd tw th tx ty :=
  ⟨(hb.block bp (dJ h.1)).trans h.1,h.2.1.below hb,h.2.2.below hb⟩
structure sS (tw th:Int) (tx ty:Tab):Prop where
  w1:1≤tw
  w2:tw≤4096
  h1:1≤th
  h2:th≤4096
  x1:1≤tx.lines.length
  x2:tx.lines.length≤70000
  y1:1≤ty.lines.length
  y2:ty.lines.length≤70000
def dh (n s:Int):Int:=(n+s - 1) / s
theorem oV {n s:Int} (h1:1≤n) (h2:n≤70000) (h3:1≤s) (h4:s≤4096):1≤dh n s∧dh n s≤70000:=by
  unfold dh
  refine ⟨?_,?_⟩
  · exact (Int.le_ediv_iff_mul_le (by omega)).2 (by omega)
  · have h:(n+s - 1) / s≤(70000*s) / s:=Int.ediv_le_ediv (by omega) (by
      have:n - 70000≤0:=by omega
      have q:(69999:Int)*1≤69999*s:=Int.mul_le_mul_of_nonneg_left h3 (by decide)
      omega)
    rwa [Int.mul_ediv_cancel _ (by omega)] at h
theorem adD {n s:Int} (h1:1≤n) (h2:n≤70000) (h3:1≤s) (h4:s≤4096):uK.f n s=some (dh n s):=by
  have hb:=oV h1 h2 h3 h4
  unfold uK.f
  rw [if_neg (by omega),aC (x:=n+s) (by omega) (by omega),aC (x:=n+s - 1) (by omega) (by omega),Int.tdiv_eq_ediv_of_nonneg (by omega)]
  show some (wrap64 (dh n s))=_
  rw [aC (by omega) (by omega)]
theorem ou {w:World} {bp bx bz:Nat} {bd tw th:Int} (h:w.heap[bp]? = some (ajb bx bz bd tw th)):w.cell? ⟨bp,0,none⟩=some (.pointer (some ⟨bx,0,none⟩))∧w.cell? ⟨bp,1,none⟩=some (.pointer (some ⟨bz,0,none⟩))∧w.cell? ⟨bp,2,none⟩=some (.int .i64 bd)∧w.cell? ⟨bp,3,none⟩=some (.int .i64 tw)∧w.cell? ⟨bp,4,none⟩=some (.int .i64 th) :=
  ⟨(au h 0).trans rfl,(au h 1).trans rfl,(au h 2).trans rfl,(au h 3).trans rfl,(au h 4).trans rfl⟩
theorem xE {P:Program} {f:FuncId} {args:Array Value} {w:World} {n:Nat} {v:Value}
    (h:Calls P f args (w.drewN n) fun e w'=>e = .returned v∧dw (w.drewN n) w'):Calls P f args (w.drewN n) fun e w''=>e = .returned v∧∃ m,w''=w.drewN m :=
  Calls.quiet_of (h.mono fun _ _ ⟨he,hd⟩=>⟨he,hd.out⟩)
theorem wB.drewN {w:World} {b:Nat} {t:Tab} (h:wB w b t) (n:Nat):wB (w.drewN n) b t:=h.below (aI (Below.refl _ _) n)
theorem qM.drewN {w:World} {bp bx bz:Nat} {bd tw th:Int} {tx ty:Tab} (h:qM w bp bx bz bd tw th tx ty) (n:Nat):qM (w.drewN n) bp bx bz bd tw th tx ty:=h.below (aI (Below.refl _ _) n)
set_option maxHeartbeats 8000000 in
set_option maxRecDepth 100000 in
theorem aa0 (bp bx bz:Nat) (bd tw th:Int) (tx ty:Tab) (w:World) (h:qM w bp bx bz bd tw th tx ty) (B:sS tw th tx ty) :
    Calls Tryz.prog 64 #[.pointer (some ⟨bp,0,none⟩)] w fun e w'=>e = .returned (.int .i64 (dh tx.lines.length tw))∧dw w w':=by
  obtain ⟨h0,hx,hy⟩:=h
  obtain ⟨c0,c1,c2,c3,c4⟩:=ou h0
  have hp:=adD (n:=(tx.lines.length:Int)) (s:=tw) (by have:=B.x1;omega) (by have:=B.x2;omega) B.w1 B.w2
  have HP:=aj.mk hp
  have TO:=aj.mk (fun n=>lY bx tx (w.drewN n) (hx.drewN n))
  clear h0 hx hy hp B
  go_enter Tryz.func64,Tryz.ntmps64
  go_wp2
  go_quiet (first
    | (go_at_call 22;exact Calls.quiet_of_same (TO.out _))
    | (go_at_call 65;exact xE (uK.calls _ _ _ _ HP.out)))
  go_wp2
  go_ret
  exact ⟨rfl,⟨⟨nq,rfl⟩⟩⟩
set_option maxHeartbeats 8000000 in
set_option maxRecDepth 100000 in
theorem aao (bp bx bz:Nat) (bd tw th:Int) (tx ty:Tab) (w:World) (h:qM w bp bx bz bd tw th tx ty) (B:sS tw th tx ty) :
    Calls Tryz.prog 25 #[.pointer (some ⟨bp,0,none⟩)] w fun e w'=>e = .returned (.int .i64 (dh tx.lines.length tw*dh ty.lines.length th))∧dw w w':=by
  have CO:=aj.mk (fun n=>aa0 bp bx bz bd tw th tx ty (w.drewN n) (h.drewN n) B)
  obtain ⟨h0,hx,hy⟩:=h
  obtain ⟨c0,c1,c2,c3,c4⟩:=ou h0
  have hp:=adD (n:=(ty.lines.length:Int)) (s:=th) (by have:=B.y1;omega) (by have:=B.y2;omega) B.h1 B.h2
  have HP:=aj.mk hp
  have TO:=aj.mk (fun n=>lY bz ty (w.drewN n) (hy.drewN n))
  have b1:=oV (n:=(tx.lines.length:Int)) (s:=tw) (by have:=B.x1;omega) (by have:=B.x2;omega) B.w1 B.w2
  have b2:=oV (n:=(ty.lines.length:Int)) (s:=th) (by have:=B.y1;omega) (by have:=B.y2;omega) B.h1 B.h2
  have wm:IntKind.i64.wrap (dh tx.lines.length tw*dh ty.lines.length th)=dh tx.lines.length tw*dh ty.lines.length th:=by
    have m1:0≤dh tx.lines.length tw*dh ty.lines.length th:=Int.mul_nonneg (by omega) (by omega)
    have m2:dh tx.lines.length tw*dh ty.lines.length th≤70000*70000:=Int.le_trans (Int.mul_le_mul_of_nonneg_right b1.2 (by omega)) (Int.mul_le_mul_of_nonneg_left b2.2 (by decide))
    rw [kU];exact aC (by omega) (by omega)
  clear h0 hx hy hp B b1 b2
  go_enter Tryz.func25,Tryz.ntmps25
  go_wp2
  go_quiet (first
    | (go_at_call 22;exact Calls.quiet_of_same (TO.out _))
    | (go_at_call 64;exact xE (CO.out _))
    | (go_at_call 65;exact xE (uK.calls _ _ _ _ HP.out)))
  go_wp2
  go_ret
  exact ⟨rfl,⟨⟨nq,rfl⟩⟩⟩
def jO (tx:Tab) (tw i:Int):Int:=i % dh tx.lines.length tw*tw
def jP (tx:Tab) (tw th i:Int):Int:=i / dh tx.lines.length tw*th
def outW (tx:Tab) (tw i:Int):Int:=min tw (tx.lines.length - jO tx tw i)
def pX (tx ty:Tab) (tw th i:Int):Int:=min th (ty.lines.length - jP tx tw th i)
theorem afW {n s j:Int} (h3:1≤s) (hj:j < dh n s):j*s≤n - 1:=by
  unfold dh at hj
  have h:=(Int.le_ediv_iff_mul_le (show 0 < s by omega)).1 (show j+1≤(n+s - 1) / s by omega)
  rw [Int.add_mul] at h
  omega
theorem adi {tx ty:Tab} {tw th i:Int} (B:sS tw th tx ty):0≤jO tx tw i∧jO tx tw i≤tx.lines.length - 1:=by
  have b1:=oV (n:=(tx.lines.length:Int)) (s:=tw) (by have:=B.x1;omega) (by have:=B.x2;omega) B.w1 B.w2
  refine ⟨Int.mul_nonneg (Int.emod_nonneg _ (by omega)) (by have:=B.w1;omega),afW B.w1 (Int.emod_lt_of_pos _ (by omega))⟩
theorem adk {tx ty:Tab} {tw th i:Int} (B:sS tw th tx ty) (i0:0≤i) (i1:i < dh tx.lines.length tw*dh ty.lines.length th):0≤jP tx tw th i∧jP tx tw th i≤ty.lines.length - 1:=by
  have b1:=oV (n:=(tx.lines.length:Int)) (s:=tw) (by have:=B.x1;omega) (by have:=B.x2;omega) B.w1 B.w2
  exact ⟨Int.mul_nonneg (Int.ediv_nonneg i0 (by omega)) (by have:=B.h1;omega),afW B.h1 (Int.ediv_lt_of_lt_mul (by omega) (by rwa [Int.mul_comm]))⟩
set_option maxHeartbeats 8000000 in
set_option maxRecDepth 100000 in
theorem an1 (bp bx bz:Nat) (bd tw th:Int) (tx ty:Tab) (i:Int) (w:World) (h:qM w bp bx bz bd tw th tx ty) (B:sS tw th tx ty) (i0:0≤i) (i1:i < dh tx.lines.length tw*dh ty.lines.length th) :
    Calls Tryz.prog 66 #[.pointer (some ⟨bp,0,none⟩),.int .i64 i] w fun e w'=>e = .returned (.agg #[.int .i64 (jO tx tw i),.int .i64 (jP tx tw th i),.int .i64 (outW tx tw i),.int .i64 (pX tx ty tw th i)])∧Below w.heap.size w w':=by
  obtain ⟨W0,hW0⟩:∃ u,u=w.alloc (.cells #[.int .i64 0,.int .i64 0,.int .i64 0,.int .i64 0] 56 (0,0)):=⟨_,rfl⟩
  have hb:Below w.heap.size w W0:=by rw [hW0];exact aT (Below.refl _ _) _
  have hr:W0.heap[w.heap.size]? = some (.cells #[.int .i64 0,.int .i64 0,.int .i64 0,.int .i64 0] 56 (0,0)):=by rw [hW0];exact heap_alloc_new w _
  have h1:=h.below hb
  have CO:=aj.mk (fun n=>aa0 bp bx bz bd tw th tx ty (W0.drewN n) (h1.drewN n) B)
  obtain ⟨h0,hx,hy⟩:=h1
  obtain ⟨c0,c1,c2,c3,c4⟩:=ou h0
  have TX:=aj.mk (fun n=>lY bx tx (W0.drewN n) (hx.drewN n))
  have TY:=aj.mk (fun n=>lY bz ty (W0.drewN n) (hy.drewN n))
  have xb:=adi (i:=i) B
  have yb:=adk B i0 i1
  have b1:=oV (n:=(tx.lines.length:Int)) (s:=tw) (by have:=B.x1;omega) (by have:=B.x2;omega) B.w1 B.w2
  obtain ⟨cs,hcs⟩:∃ u,u=dh tx.lines.length tw:=⟨_,rfl⟩
  have e1:Int.tmod i cs=i % cs:=Int.tmod_eq_emod_of_nonneg i0
  have e2:Int.tdiv i cs=i / cs:=Int.tdiv_eq_ediv_of_nonneg i0
  have e3:i % cs*tw=jO tx tw i:=by rw [hcs];rfl
  have e4:i / cs*th=jP tx tw th i:=by rw [hcs];rfl
  have e5:(tx.lines.length:Int) - jO tx tw i=(tx.lines.length:Int) - jO tx tw i:=rfl
  rw [← hcs] at CO b1
  have cz0:cs≠0:=by omega
  have cz:(cs == 0)=false:=by rw [beq_eq_false_iff_ne];omega
  have cz2:(cs != 0)=true:=by rw [bne_iff_ne];omega
  have q1:IntKind.i64.wrap (i % cs)=i % cs:=by
    have:=Int.emod_nonneg i (show cs≠0 by omega);have:=Int.emod_lt_of_pos i (show 0 < cs by omega)
    rw [kU];exact aC (by omega) (by omega)
  obtain ⟨X,hX⟩:∃ u,u=jO tx tw i:=⟨_,rfl⟩
  obtain ⟨Y,hY⟩:∃ u,u=jP tx tw th i:=⟨_,rfl⟩
  have l1:=B.x2
  have l2:=B.y2
  rw [← hX] at xb e3
  rw [← hY] at yb e4
  have q3:=Int.ediv_nonneg i0 (show 0≤cs by omega)
  have q4:=Int.ediv_lt_of_lt_mul (show 0 < cs by omega) (show i < dh ty.lines.length th*cs by rw [hcs];rwa [Int.mul_comm])
  have q5:=oV (n:=(ty.lines.length:Int)) (s:=th) (by have:=B.y1;omega) (by have:=B.y2;omega) B.h1 B.h2
  have q2:wrap64 (i / cs)=i / cs:=aC (by omega) (by omega)
  have wy0:wrap64 Y=Y:=aC (by omega) (by omega)
  have wx:IntKind.i64.wrap X=X:=by rw [kU];exact aC (by omega) (by omega)
  have wy:IntKind.i64.wrap Y=Y:=by rw [kU];exact aC (by omega) (by omega)
  have wx2:IntKind.i64.wrap ((tx.lines.length:Int) - X)=(tx.lines.length:Int) - X:=by rw [kU];exact aC (by omega) (by omega)
  have wy2:IntKind.i64.wrap ((ty.lines.length:Int) - Y)=(ty.lines.length:Int) - Y:=by rw [kU];exact aC (by omega) (by omega)
  have HB:=aj.mk hb
  have HR:=aj.mk hr
  unfold outW pX
  rw [← hX,← hY]
  have TXB:=aj.mk (fun w' (hb:Below W0.heap.size W0 w')=>lY bx tx w' (hx.below hb))
  have TYB:=aj.mk (fun w' (hb:Below W0.heap.size W0 w')=>lY bz ty w' (hy.below hb))
  have TXW:=aj.mk (fun w' (hb:Below w.heap.size w w')=>lY bx tx w' (h.2.1.below hb))
  have TYW:=aj.mk (fun w' (hb:Below w.heap.size w w')=>lY bz ty w' (h.2.2.below hb))
  have HK:=aj.mk (fun w' (hb:Below w.heap.size w w')=>(show Below w.heap.size w w'∧w'.cell? ⟨bp,0,none⟩=some (.pointer (some ⟨bx,0,none⟩))∧w'.cell? ⟨bp,1,none⟩=some (.pointer (some ⟨bz,0,none⟩))∧w'.cell? ⟨bp,3,none⟩=some (.int .i64 tw)∧w'.cell? ⟨bp,4,none⟩=some (.int .i64 th) from ⟨hb,(ou (h.below hb).1).1,(ou (h.below hb).1).2.1,(ou (h.below hb).1).2.2.2.1,(ou (h.below hb).1).2.2.2.2⟩))
  have mixed:Tryz.prog.follows .mixedOrders=true:=by kernel_rfl
  clear h0 hx hy h hb hr B xb yb b1 hcs l1 l2 i0 i1 hX hY e5 q3 q4 q5 TX TY
  go_enter Tryz.func66,Tryz.ntmps66
  go_wp2
  rw [← hW0]
  obtain ⟨r,hr⟩:∃ u,u=w.heap.size:=⟨_,rfl⟩
  rw [← hr]
  clear hW0
  go_quiet (first
    | (go_at_call 64;exact xE (CO.out _)))
  go_wp2
  rw [← hr] at HR
  have z0:W0.cell? ⟨r,0,none⟩=some (.int .i64 0):=(au HR.out 0).trans rfl
  have z1:W0.cell? ⟨r,1,none⟩=some (.int .i64 0):=(au HR.out 1).trans rfl
  have z2:W0.cell? ⟨r,2,none⟩=some (.int .i64 0):=(au HR.out 2).trans rfl
  have z3:W0.cell? ⟨r,3,none⟩=some (.int .i64 0):=(au HR.out 3).trans rfl
  have y0:=aN HR.out 0
  have y1:=aN HR.out 1
  have y2:=aN HR.out 2
  have y3:=aN HR.out 3
  have HRR:=aj.mk hr
  clear hr
  clear TXB TYB
  rw [← HRR.out] at HK TXW TYW
  have S0:=HB.out
  rw [← HRR.out] at S0
  go_region_held3 (fun w'=>Below r w w'∧w'.cell? ⟨bp,0,none⟩=some (.pointer (some ⟨bx,0,none⟩))∧w'.cell? ⟨bp,1,none⟩=some (.pointer (some ⟨bz,0,none⟩))∧w'.cell? ⟨bp,3,none⟩=some (.int .i64 tw)∧w'.cell? ⟨bp,4,none⟩=some (.int .i64 th))
    ((refine HK.out _ ?_;repeat (first|exact S0|assumption|(refine Below.setCell (p:=⟨r,_,none⟩) ?_ (Nat.le_refl r) _)|(with_reducible apply aI)|(with_reducible apply bg))))
    (first
      | (go_at_call 22;(with_reducible refine Calls.mono (TXW.out _ ?hh) ?_);(case hh=>repeat (first|exact S0|assumption|(with_reducible apply aI)|(with_reducible apply bg)));rintro e w' ⟨rfl,rfl⟩)
      | (go_at_call 22;(with_reducible refine Calls.mono (TYW.out _ ?hh) ?_);(case hh=>repeat (first|exact S0|assumption|(with_reducible apply aI)|(with_reducible apply bg)));rintro e w' ⟨rfl,rfl⟩))
  all_goals (
    have hd:(W0.drewN (nq+1)).heap[r]? = some (.cells #[.int .i64 0,.int .i64 0,.int .i64 0,.int .i64 0] 56 (0,0)):=by rw [World.heap_drewN];exact HR.out
    have hb:=aI S0 (nq+1)
    generalize W0.drewN (nq+1)=wd at hd hb ⊢
    have hr5:((((wd.setCell ⟨r,0,none⟩ (.int .i64 X)).setCell ⟨r,1,none⟩ (.int .i64 Y)).setCell ⟨r,2,none⟩ (.int .i64 (min tw (tx.lines.length - X)))).setCell ⟨r,3,none⟩ (.int .i64 (min th (ty.lines.length - Y)))).heap[r]? = some (.cells #[.int .i64 X,.int .i64 Y,.int .i64 (min tw (tx.lines.length - X)),.int .i64 (min th (ty.lines.length - Y))] 56 (0,0)):=by simpa using bP (bP (bP (bP hd 0 (.int .i64 X)) 1 (.int .i64 Y)) 2 (.int .i64 (min tw (tx.lines.length - X)))) 3 (.int .i64 (min th (ty.lines.length - Y)))
    have B5:=aj.mk ((((hb.setCell (p:=⟨r,0,none⟩) (Nat.le_refl r) (.int .i64 X)).setCell (p:=⟨r,1,none⟩) (Nat.le_refl r) (.int .i64 Y)).setCell (p:=⟨r,2,none⟩) (Nat.le_refl r) (.int .i64 (min tw (tx.lines.length - X)))).setCell (p:=⟨r,3,none⟩) (Nat.le_refl r) (.int .i64 (min th (ty.lines.length - Y))))
    generalize (((wd.setCell ⟨r,0,none⟩ (.int .i64 X)).setCell ⟨r,1,none⟩ (.int .i64 Y)).setCell ⟨r,2,none⟩ (.int .i64 (min tw (tx.lines.length - X)))).setCell ⟨r,3,none⟩ (.int .i64 (min th (ty.lines.length - Y)))=w5 at hr5 B5 ⊢
    have p0:w5.cell? ⟨r,0,none⟩=some (.int .i64 X):=(au hr5 0).trans rfl
    have p1:w5.cell? ⟨r,1,none⟩=some (.int .i64 Y):=(au hr5 1).trans rfl
    have p2:w5.cell? ⟨r,2,none⟩=some (.int .i64 (min tw (tx.lines.length - X))):=(au hr5 2).trans rfl
    have p3:w5.cell? ⟨r,3,none⟩=some (.int .i64 (min th (ty.lines.length - Y))):=(au hr5 3).trans rfl
    clear hr5 hd hb S0 z0 z1 z2 z3 y0 y1 y2 y3
    try simp only [Exit.inBlock,Exit.then]
    go_wp2
    try simp only [Exit.inBlock,Exit.then]
    refine bodyPost_ret (by simp [results,Tryz.results66,go_sem,p0,p1,p2,p3];try rfl) rfl ?_
    refine ⟨rfl,?_⟩
    have q:=B5.out
    rw [HRR.out] at q
    exact q)
set_option maxHeartbeats 8000000 in
set_option maxRecDepth 100000 in
theorem agX (bp bx bz:Nat) (bd tw th:Int) (tx ty:Tab) (i:Int) (w:World) (h:qM w bp bx bz bd tw th tx ty) (B:sS tw th tx ty) (i0:0≤i) (i1:i < dh tx.lines.length tw*dh ty.lines.length th) :
    Calls Tryz.prog 27 #[.pointer (some ⟨bp,0,none⟩),.int .i64 i] w fun e w'=>e = .returned (.tuple #[.agg #[.int .i64 i,.int .i64 (jO tx tw i),.int .i64 (jP tx tw th i),.int .i64 (outW tx tw i),.int .i64 (pX tx ty tw th i),.int .i64 (dF tx (jO tx tw i) (jO tx tw i+outW tx tw i)).1,.int .i64 (dF ty (jP tx tw th i) (jP tx tw th i+pX tx ty tw th i)).1,.int .i64 (dF tx (jO tx tw i) (jO tx tw i+outW tx tw i)).2,.int .i64 (dF ty (jP tx tw th i) (jP tx tw th i+pX tx ty tw th i)).2,.int .i64 ty.most],.bool true])∧Below w.heap.size w w':=by
  have CO:=aj.mk (fun n=>aao bp bx bz bd tw th tx ty (w.drewN n) (h.drewN n) B)
  have n0:¬ i < 0:=by omega
  have n1:¬ dh tx.lines.length tw*dh ty.lines.length th≤i:=by omega
  have CW:=aj.mk (fun w' (hb:Below w.heap.size w w')=>aao bp bx bz bd tw th tx ty w' (h.below hb) B)
  have OW:=aj.mk (fun w' (hb:Below w.heap.size w w')=>an1 bp bx bz bd tw th tx ty i w' (h.below hb) B i0 i1)
  have mixed:Tryz.prog.follows .mixedOrders=true:=by kernel_rfl
  have MY:=aj.mk (fun w' (hb:Below w.heap.size w w')=>amb bz ty w' (h.2.2.below hb))
  have HK:=aj.mk (fun w' (hb:Below w.heap.size w w')=>(show Below w.heap.size w w'∧w'.cell? ⟨bp,0,none⟩=some (.pointer (some ⟨bx,0,none⟩))∧w'.cell? ⟨bp,1,none⟩=some (.pointer (some ⟨bz,0,none⟩)) from ⟨hb,(ou (h.below hb).1).1,(ou (h.below hb).1).2.1⟩))
  have xb:=adi (i:=i) B
  have yb:=adk B i0 i1
  have l1:=B.x2
  have l2:=B.y2
  have xw:IntKind.i64.wrap (jO tx tw i+outW tx tw i)=jO tx tw i+outW tx tw i:=by
    have:=B.w1;have:=B.w2
    unfold outW
    rw [kU];exact aC (by omega) (by omega)
  have yw:IntKind.i64.wrap (jP tx tw th i+pX tx ty tw th i)=jP tx tw th i+pX tx ty tw th i:=by
    have:=B.h1;have:=B.h2
    unfold pX
    rw [kU];exact aC (by omega) (by omega)
  have RX:=aj.mk (fun w' (hb:Below w.heap.size w w')=>acf bx tx (jO tx tw i) (jO tx tw i+outW tx tw i) w' (h.2.1.below hb) l1)
  have RY:=aj.mk (fun w' (hb:Below w.heap.size w w')=>acf bz ty (jP tx tw th i) (jP tx tw th i+pX tx ty tw th i) w' (h.2.2.below hb) l2)
  clear xb yb l1 l2
  obtain ⟨X,hX⟩:∃ u,u=jO tx tw i:=⟨_,rfl⟩
  obtain ⟨Y,hY⟩:∃ u,u=jP tx tw th i:=⟨_,rfl⟩
  obtain ⟨Wd,hWd⟩:∃ u,u=outW tx tw i:=⟨_,rfl⟩
  obtain ⟨Ht,hHt⟩:∃ u,u=pX tx ty tw th i:=⟨_,rfl⟩
  rw [← hX,← hY,← hWd,← hHt] at OW ⊢
  rw [← hX,← hWd] at RX xw
  rw [← hY,← hHt] at RY yw
  obtain ⟨W0,hW0⟩:∃ u,u=w.alloc (.cells #[.int .i64 0,.int .i64 0,.int .i64 0,.int .i64 0,.int .i64 0,.int .i64 0,.int .i64 0,.int .i64 0,.int .i64 0,.int .i64 0] 58 (0,0)):=⟨_,rfl⟩
  have hb:Below w.heap.size w W0:=by rw [hW0];exact aT (Below.refl _ _) _
  have hr:W0.heap[w.heap.size]? = some (.cells #[.int .i64 0,.int .i64 0,.int .i64 0,.int .i64 0,.int .i64 0,.int .i64 0,.int .i64 0,.int .i64 0,.int .i64 0,.int .i64 0] 58 (0,0)):=by rw [hW0];exact heap_alloc_new w _
  have HB:=aj.mk hb
  have HR:=aj.mk hr
  clear i0 i1 h hX hY hWd hHt hb hr B
  go_enter Tryz.func27,Tryz.ntmps27
  go_wp2_with (first
    | (go_at_call 25;(with_reducible refine Calls.mono (CW.out _ ?hh) ?_);(case hh=>repeat (first|(with_reducible first|exact Below.refl _ _|apply aT|apply aI|apply bg)|exact Below.refl _ _));rintro e w' ⟨rfl,⟨nd,rfl⟩⟩))
  rw [← hW0]
  obtain ⟨r,hr⟩:∃ u,u=w.heap.size:=⟨_,rfl⟩
  rw [← hr] at HR ⊢
  have hb:=aI HB.out nd
  have hq:=HR.out
  rw [← World.heap_drewN W0 nd] at hq
  generalize W0.drewN nd=W1 at hb hq ⊢
  have S0:=hb
  have HR1:=aj.mk hq
  obtain ⟨-,c0,c1⟩:=HK.out _ hb
  have HRQ:=aj.mk hr
  clear hW0 hb hq HB HR hr
  go_cut [6] (fun v6 wc=>∃ gt,v6 = .pointer (some ⟨gt,0,none⟩)∧r < gt∧aj (wc.heap[gt]? = some (.cells #[.int .i64 i,.int .i64 X,.int .i64 Y,.int .i64 Wd,.int .i64 Ht,.int .i64 0,.int .i64 0,.int .i64 0,.int .i64 0,.int .i64 ty.most] 58 (0,0)))∧aj (Below w.heap.size w wc)∧aj (wc.heap[r]? = some (.cells #[.int .i64 0,.int .i64 0,.int .i64 0,.int .i64 0,.int .i64 0,.int .i64 0,.int .i64 0,.int .i64 0,.int .i64 0,.int .i64 0] 58 (0,0))))
  case first =>
    go_region_held3 (fun w'=>Below w.heap.size w w'∧w'.cell? ⟨bp,0,none⟩=some (.pointer (some ⟨bx,0,none⟩))∧w'.cell? ⟨bp,1,none⟩=some (.pointer (some ⟨bz,0,none⟩)))
      ((refine HK.out _ ?_;repeat (first|(with_reducible exact S0)|(with_reducible assumption)|(with_reducible refine Below.setCell (p:=⟨W1.heap.size,_,none⟩) ?_ S0.size _)|(with_reducible apply aT)|(with_reducible apply aI)|(with_reducible apply bg))))
      (first
        | (go_at_call 23;(with_reducible refine Calls.mono (MY.out _ ?hh) ?_);(case hh=>repeat (first|(with_reducible exact S0)|(with_reducible assumption)|(with_reducible apply aT)|(with_reducible apply aI)|(with_reducible apply bg)));rintro e w' ⟨rfl,rfl⟩)
        | (go_at_call 66;(with_reducible refine Calls.mono (OW.out _ ?hh) ?_);(case hh=>repeat (first|(with_reducible exact S0)|(with_reducible assumption)|(with_reducible apply aT)|(with_reducible apply aI)|(with_reducible apply bg)));rintro e w2 ⟨rfl,hb2⟩;have hs2:Below w.heap.size w w2:=(by with_reducible first|exact ak (bg S0) hb2|exact ak (bg (aT S0 _)) hb2);have hw2:Below W1.heap.size W1 w2:=(by with_reducible first|exact ak (bg (Below.refl _ _)) hb2|exact ak (bg (aT (Below.refl _ _) _)) hb2);have HR2:=aj.mk ((hw2.block r (dJ HR1.out)).trans HR1.out);(try (have hb3:Below (W1.alloc (.cells #[.int .i64 0,.int .i64 0,.int .i64 0,.int .i64 0,.int .i64 0,.int .i64 0,.int .i64 0,.int .i64 0,.int .i64 0,.int .i64 0] 58 (0,0))).heap.size (W1.alloc (.cells #[.int .i64 0,.int .i64 0,.int .i64 0,.int .i64 0,.int .i64 0,.int .i64 0,.int .i64 0,.int .i64 0,.int .i64 0,.int .i64 0] 58 (0,0))) w2:=(by with_reducible exact ak (bg (Below.refl _ _)) hb2);have hq2:w2.heap[W1.heap.size]? = some (.cells #[.int .i64 0,.int .i64 0,.int .i64 0,.int .i64 0,.int .i64 0,.int .i64 0,.int .i64 0,.int .i64 0,.int .i64 0,.int .i64 0] 58 (0,0)):=(hb3.block _ (dJ (heap_alloc_new W1 _))).trans (heap_alloc_new W1 _);clear hb3;have t0:w2.cell? ⟨W1.heap.size,0,none⟩=some (.int .i64 0):=(au hq2 0).trans rfl;have u0:=aN hq2 0;have t1:w2.cell? ⟨W1.heap.size,1,none⟩=some (.int .i64 0):=(au hq2 1).trans rfl;have u1:=aN hq2 1;have t2:w2.cell? ⟨W1.heap.size,2,none⟩=some (.int .i64 0):=(au hq2 2).trans rfl;have u2:=aN hq2 2;have t3:w2.cell? ⟨W1.heap.size,3,none⟩=some (.int .i64 0):=(au hq2 3).trans rfl;have u3:=aN hq2 3;have t4:w2.cell? ⟨W1.heap.size,4,none⟩=some (.int .i64 0):=(au hq2 4).trans rfl;have u4:=aN hq2 4;have t5:w2.cell? ⟨W1.heap.size,5,none⟩=some (.int .i64 0):=(au hq2 5).trans rfl;have u5:=aN hq2 5;have t6:w2.cell? ⟨W1.heap.size,6,none⟩=some (.int .i64 0):=(au hq2 6).trans rfl;have u6:=aN hq2 6;have t7:w2.cell? ⟨W1.heap.size,7,none⟩=some (.int .i64 0):=(au hq2 7).trans rfl;have u7:=aN hq2 7;have t8:w2.cell? ⟨W1.heap.size,8,none⟩=some (.int .i64 0):=(au hq2 8).trans rfl;have u8:=aN hq2 8;have t9:w2.cell? ⟨W1.heap.size,9,none⟩=some (.int .i64 0):=(au hq2 9).trans rfl;have u9:=aN hq2 9;have HQ2:=aj.mk hq2;clear hq2));clear hb2 hw2))
    all_goals go_wp2
    all_goals go_meet
    case rel=>exact ⟨_,rfl,dJ HR2.out,⟨heap_alloc_new _ _⟩,⟨aT hs2 _⟩,⟨((aT (Below.refl _ _) _).block r (dJ HR2.out)).trans HR2.out⟩⟩
    case rel=>exact ⟨_,rfl,dJ HR2.out,⟨heap_alloc_new _ _⟩,⟨aT hs2 _⟩,⟨((aT (Below.refl _ _) _).block r (dJ HR2.out)).trans HR2.out⟩⟩
    case rel =>
      have hne:r≠W1.heap.size:=Nat.ne_of_lt (dJ HR1.out)
      refine ⟨_,rfl,dJ HR1.out,⟨by simpa using (bP (bP (bP (bP (bP (bP (bP (bP (bP (bP HQ2.out 0 (.int .i64 i)) 1 (.int .i64 X)) 2 (.int .i64 Y)) 3 (.int .i64 Wd)) 4 (.int .i64 Ht)) 5 (.int .i64 0)) 6 (.int .i64 0)) 7 (.int .i64 0)) 8 (.int .i64 0)) 9 (.int .i64 ty.most))⟩,⟨by repeat (first|(with_reducible exact hs2)|(refine Below.setCell (p:=⟨W1.heap.size,_,none⟩) ?_ S0.size _))⟩,⟨by repeat (first|(with_reducible exact HR2.out)|(refine iI ?_ hne _))⟩⟩
  case rest =>
    obtain ⟨gt,rfl,hlt,HT,HB,HRR⟩:=hcut
    clear c0 c1 S0 HR1
    obtain ⟨-,c0,c1⟩:=HK.out _ HB.out
    have S0:=HB.out
    have S1:=HT.out
    have KP:=aj.mk (fun (w':World) (hb:Below w.heap.size w w') (hA:∃ A:Array Value,w'.heap[gt]? = some (.cells A 58 (0,0))∧A[1]? = some (.int .i64 X)∧A[2]? = some (.int .i64 Y)∧A[3]? = some (.int .i64 Wd)∧A[4]? = some (.int .i64 Ht))=>(show Below w.heap.size w w'∧w'.cell? ⟨bp,0,none⟩=some (.pointer (some ⟨bx,0,none⟩))∧w'.cell? ⟨bp,1,none⟩=some (.pointer (some ⟨bz,0,none⟩))∧w'.cell? ⟨gt,1,none⟩=some (.int .i64 X)∧w'.cell? ⟨gt,2,none⟩=some (.int .i64 Y)∧w'.cell? ⟨gt,3,none⟩=some (.int .i64 Wd)∧w'.cell? ⟨gt,4,none⟩=some (.int .i64 Ht) from by obtain ⟨A,ht,h1,h2,h3,h4⟩:=hA;exact ⟨hb,(HK.out _ hb).2.1,(HK.out _ hb).2.2,(au ht 1).trans h1,(au ht 2).trans h2,(au ht 3).trans h3,(au ht 4).trans h4⟩))
    have hgl:w.heap.size≤gt:=by rw [← HRQ.out];exact Nat.le_of_lt hlt
    clear CO CW OW MY
    go_wp2
    go_region_held3 (fun w'=>Below w.heap.size w w'∧w'.cell? ⟨bp,0,none⟩=some (.pointer (some ⟨bx,0,none⟩))∧w'.cell? ⟨bp,1,none⟩=some (.pointer (some ⟨bz,0,none⟩))∧w'.cell? ⟨gt,1,none⟩=some (.int .i64 X)∧w'.cell? ⟨gt,2,none⟩=some (.int .i64 Y)∧w'.cell? ⟨gt,3,none⟩=some (.int .i64 Wd)∧w'.cell? ⟨gt,4,none⟩=some (.int .i64 Ht))
      ((refine KP.out _ (by repeat (first|(with_reducible exact S0)|(with_reducible assumption)|(with_reducible refine Below.setCell (p:=⟨gt,_,none⟩) ?_ hgl _)|(with_reducible apply bg))) ?_;apply Exists.intro;refine ⟨?_,?_,?_,?_,?_⟩;(focus (repeat (first|(with_reducible exact S1)|(with_reducible assumption)|(with_reducible apply bP)|(with_reducible apply jv))));all_goals rfl))
      (first
        | (go_at_call 67;(with_reducible refine Calls.mono (RX.out _ ?hh) ?_);(case hh=>repeat (first|(with_reducible exact S0)|(with_reducible assumption)|(with_reducible apply bg)));rintro e w2 ⟨rfl,hb2⟩;have hs2:Below w.heap.size w w2:=(by with_reducible exact ak (bg S0) hb2);have hw2:Below wc.heap.size wc w2:=(by with_reducible exact ak (bg (Below.refl _ _)) hb2);have HR2:=aj.mk ((hw2.block r (dJ HRR.out)).trans HRR.out);have hT2:=(hw2.block gt (dJ HT.out)).trans HT.out;have HT2:=aj.mk hT2;have u5:w2.cell? ⟨gt,5,none⟩=some (.int .i64 0):=(au hT2 5).trans rfl;have u7:w2.cell? ⟨gt,7,none⟩=some (.int .i64 0):=(au hT2 7).trans rfl;have v5:=aN hT2 5;have v7:=aN hT2 7;clear hb2 hw2))
    have hne:r≠gt:=Nat.ne_of_lt hlt
    have hT3:((w2.setCell ⟨gt,5,none⟩ (.int .i64 (dF tx X (X+Wd)).1)).setCell ⟨gt,7,none⟩ (.int .i64 (dF tx X (X+Wd)).2)).heap[gt]? = some (.cells #[.int .i64 i,.int .i64 X,.int .i64 Y,.int .i64 Wd,.int .i64 Ht,.int .i64 (dF tx X (X+Wd)).1,.int .i64 0,.int .i64 (dF tx X (X+Wd)).2,.int .i64 0,.int .i64 ty.most] 58 (0,0)):=by simpa using bP (bP HT2.out 5 (.int .i64 (dF tx X (X+Wd)).1)) 7 (.int .i64 (dF tx X (X+Wd)).2)
    have hS3:Below w.heap.size w ((w2.setCell ⟨gt,5,none⟩ (.int .i64 (dF tx X (X+Wd)).1)).setCell ⟨gt,7,none⟩ (.int .i64 (dF tx X (X+Wd)).2)):=(hs2.setCell (p:=⟨gt,5,none⟩) hgl _).setCell (p:=⟨gt,7,none⟩) hgl _
    have hR3:((w2.setCell ⟨gt,5,none⟩ (.int .i64 (dF tx X (X+Wd)).1)).setCell ⟨gt,7,none⟩ (.int .i64 (dF tx X (X+Wd)).2)).heap[r]? = some (.cells #[.int .i64 0,.int .i64 0,.int .i64 0,.int .i64 0,.int .i64 0,.int .i64 0,.int .i64 0,.int .i64 0,.int .i64 0,.int .i64 0] 58 (0,0)):=iI (iI HR2.out hne _) hne _
    have HR3:=aj.mk hR3
    clear hR3 S1 S0 HT HB HRR c0 c1 hT2 HT2 HR2 u5 u7 v5 v7 hs2 RX
    generalize (w2.setCell ⟨gt,5,none⟩ (.int .i64 (dF tx X (X+Wd)).1)).setCell ⟨gt,7,none⟩ (.int .i64 (dF tx X (X+Wd)).2)=w3 at hT3 hS3 HR3 ⊢
    have S1:=hT3
    have S0:=hS3
    have HT:=aj.mk hT3
    have HRR:=aj.mk HR3.out
    obtain ⟨-,c0,c1⟩:=HK.out _ hS3
    clear hT3 hS3 HR3
    try simp only [Exit.inBlock,Exit.then]
    go_wp2
    go_region_held3 (fun w'=>Below w.heap.size w w'∧w'.cell? ⟨bp,0,none⟩=some (.pointer (some ⟨bx,0,none⟩))∧w'.cell? ⟨bp,1,none⟩=some (.pointer (some ⟨bz,0,none⟩))∧w'.cell? ⟨gt,1,none⟩=some (.int .i64 X)∧w'.cell? ⟨gt,2,none⟩=some (.int .i64 Y)∧w'.cell? ⟨gt,3,none⟩=some (.int .i64 Wd)∧w'.cell? ⟨gt,4,none⟩=some (.int .i64 Ht))
      ((refine KP.out _ (by repeat (first|(with_reducible exact S0)|(with_reducible assumption)|(with_reducible refine Below.setCell (p:=⟨gt,_,none⟩) ?_ hgl _)|(with_reducible apply bg))) ?_;apply Exists.intro;refine ⟨?_,?_,?_,?_,?_⟩;(focus (repeat (first|(with_reducible exact S1)|(with_reducible assumption)|(with_reducible apply bP)|(with_reducible apply jv))));all_goals rfl))
      (first
        | (go_at_call 67;(with_reducible refine Calls.mono (RY.out _ ?hh) ?_);(case hh=>repeat (first|(with_reducible exact S0)|(with_reducible assumption)|(with_reducible apply bg)));rintro e w2 ⟨rfl,hb2⟩;have hs2:Below w.heap.size w w2:=(by with_reducible exact ak (bg S0) hb2);have hw2:Below w3.heap.size w3 w2:=(by with_reducible exact ak (bg (Below.refl _ _)) hb2);have HR2:=aj.mk ((hw2.block r (dJ HRR.out)).trans HRR.out);have hT2:=(hw2.block gt (dJ HT.out)).trans HT.out;have HT2:=aj.mk hT2;have u6:w2.cell? ⟨gt,6,none⟩=some (.int .i64 0):=(au hT2 6).trans rfl;have u8:w2.cell? ⟨gt,8,none⟩=some (.int .i64 0):=(au hT2 8).trans rfl;have v6:=aN hT2 6;have v8:=aN hT2 8;clear hb2 hw2))
    have hT4:((w2.setCell ⟨gt,6,none⟩ (.int .i64 (dF ty Y (Y+Ht)).1)).setCell ⟨gt,8,none⟩ (.int .i64 (dF ty Y (Y+Ht)).2)).heap[gt]? = some (.cells #[.int .i64 i,.int .i64 X,.int .i64 Y,.int .i64 Wd,.int .i64 Ht,.int .i64 (dF tx X (X+Wd)).1,.int .i64 (dF ty Y (Y+Ht)).1,.int .i64 (dF tx X (X+Wd)).2,.int .i64 (dF ty Y (Y+Ht)).2,.int .i64 ty.most] 58 (0,0)):=by simpa using bP (bP HT2.out 6 (.int .i64 (dF ty Y (Y+Ht)).1)) 8 (.int .i64 (dF ty Y (Y+Ht)).2)
    have hS4:Below w.heap.size w ((w2.setCell ⟨gt,6,none⟩ (.int .i64 (dF ty Y (Y+Ht)).1)).setCell ⟨gt,8,none⟩ (.int .i64 (dF ty Y (Y+Ht)).2)):=(hs2.setCell (p:=⟨gt,6,none⟩) hgl _).setCell (p:=⟨gt,8,none⟩) hgl _
    have hR4:((w2.setCell ⟨gt,6,none⟩ (.int .i64 (dF ty Y (Y+Ht)).1)).setCell ⟨gt,8,none⟩ (.int .i64 (dF ty Y (Y+Ht)).2)).heap[r]? = some (.cells #[.int .i64 0,.int .i64 0,.int .i64 0,.int .i64 0,.int .i64 0,.int .i64 0,.int .i64 0,.int .i64 0,.int .i64 0,.int .i64 0] 58 (0,0)):=iI (iI HR2.out hne _) hne _
    have qR:=aj.mk hR4
    clear hR4 S1 S0 HT HRR c0 c1 hT2 HT2 HR2 u6 u8 v6 v8 hs2 RY KP HK
    generalize (w2.setCell ⟨gt,6,none⟩ (.int .i64 (dF ty Y (Y+Ht)).1)).setCell ⟨gt,8,none⟩ (.int .i64 (dF ty Y (Y+Ht)).2)=w4 at hT4 hS4 qR ⊢
    have p0:w4.cell? ⟨gt,0,none⟩=some (.int .i64 i):=(au hT4 0).trans rfl
    have p1:w4.cell? ⟨gt,1,none⟩=some (.int .i64 X):=(au hT4 1).trans rfl
    have p2:w4.cell? ⟨gt,2,none⟩=some (.int .i64 Y):=(au hT4 2).trans rfl
    have p3:w4.cell? ⟨gt,3,none⟩=some (.int .i64 Wd):=(au hT4 3).trans rfl
    have p4:w4.cell? ⟨gt,4,none⟩=some (.int .i64 Ht):=(au hT4 4).trans rfl
    have p5:w4.cell? ⟨gt,5,none⟩=some (.int .i64 (dF tx X (X+Wd)).1):=(au hT4 5).trans rfl
    have p6:w4.cell? ⟨gt,6,none⟩=some (.int .i64 (dF ty Y (Y+Ht)).1):=(au hT4 6).trans rfl
    have p7:w4.cell? ⟨gt,7,none⟩=some (.int .i64 (dF tx X (X+Wd)).2):=(au hT4 7).trans rfl
    have p8:w4.cell? ⟨gt,8,none⟩=some (.int .i64 (dF ty Y (Y+Ht)).2):=(au hT4 8).trans rfl
    have p9:w4.cell? ⟨gt,9,none⟩=some (.int .i64 ty.most):=(au hT4 9).trans rfl
    have z0:w4.cell? ⟨r,0,none⟩=some (.int .i64 0):=(au qR.out 0).trans rfl
    have y0:=aN qR.out 0
    have z1:w4.cell? ⟨r,1,none⟩=some (.int .i64 0):=(au qR.out 1).trans rfl
    have y1:=aN qR.out 1
    have z2:w4.cell? ⟨r,2,none⟩=some (.int .i64 0):=(au qR.out 2).trans rfl
    have y2:=aN qR.out 2
    have z3:w4.cell? ⟨r,3,none⟩=some (.int .i64 0):=(au qR.out 3).trans rfl
    have y3:=aN qR.out 3
    have z4:w4.cell? ⟨r,4,none⟩=some (.int .i64 0):=(au qR.out 4).trans rfl
    have y4:=aN qR.out 4
    have z5:w4.cell? ⟨r,5,none⟩=some (.int .i64 0):=(au qR.out 5).trans rfl
    have y5:=aN qR.out 5
    have z6:w4.cell? ⟨r,6,none⟩=some (.int .i64 0):=(au qR.out 6).trans rfl
    have y6:=aN qR.out 6
    have z7:w4.cell? ⟨r,7,none⟩=some (.int .i64 0):=(au qR.out 7).trans rfl
    have y7:=aN qR.out 7
    have z8:w4.cell? ⟨r,8,none⟩=some (.int .i64 0):=(au qR.out 8).trans rfl
    have y8:=aN qR.out 8
    have z9:w4.cell? ⟨r,9,none⟩=some (.int .i64 0):=(au qR.out 9).trans rfl
    have y9:=aN qR.out 9
    have S0:=aj.mk hS4
    have hrl:w.heap.size≤r:=by rw [← HRQ.out];exact Nat.le_refl _
    clear hT4 hS4
    try simp only [Exit.inBlock,Exit.then]
    go_wp2
    have hr5:((((((((((w4.setCell ⟨r,0,none⟩ (.int .i64 i)).setCell ⟨r,1,none⟩ (.int .i64 X)).setCell ⟨r,2,none⟩ (.int .i64 Y)).setCell ⟨r,3,none⟩ (.int .i64 Wd)).setCell ⟨r,4,none⟩ (.int .i64 Ht)).setCell ⟨r,5,none⟩ (.int .i64 (dF tx X (X+Wd)).1)).setCell ⟨r,6,none⟩ (.int .i64 (dF ty Y (Y+Ht)).1)).setCell ⟨r,7,none⟩ (.int .i64 (dF tx X (X+Wd)).2)).setCell ⟨r,8,none⟩ (.int .i64 (dF ty Y (Y+Ht)).2)).setCell ⟨r,9,none⟩ (.int .i64 ty.most)).heap[r]? = some (.cells #[.int .i64 i,.int .i64 X,.int .i64 Y,.int .i64 Wd,.int .i64 Ht,.int .i64 (dF tx X (X+Wd)).1,.int .i64 (dF ty Y (Y+Ht)).1,.int .i64 (dF tx X (X+Wd)).2,.int .i64 (dF ty Y (Y+Ht)).2,.int .i64 ty.most] 58 (0,0)):=by simpa using bP (bP (bP (bP (bP (bP (bP (bP (bP (bP qR.out 0 (.int .i64 i)) 1 (.int .i64 X)) 2 (.int .i64 Y)) 3 (.int .i64 Wd)) 4 (.int .i64 Ht)) 5 (.int .i64 (dF tx X (X+Wd)).1)) 6 (.int .i64 (dF ty Y (Y+Ht)).1)) 7 (.int .i64 (dF tx X (X+Wd)).2)) 8 (.int .i64 (dF ty Y (Y+Ht)).2)) 9 (.int .i64 ty.most)
    have B5:=aj.mk ((((((((((S0.out.setCell (p:=⟨r,0,none⟩) hrl (.int .i64 i)).setCell (p:=⟨r,1,none⟩) hrl (.int .i64 X)).setCell (p:=⟨r,2,none⟩) hrl (.int .i64 Y)).setCell (p:=⟨r,3,none⟩) hrl (.int .i64 Wd)).setCell (p:=⟨r,4,none⟩) hrl (.int .i64 Ht)).setCell (p:=⟨r,5,none⟩) hrl (.int .i64 (dF tx X (X+Wd)).1)).setCell (p:=⟨r,6,none⟩) hrl (.int .i64 (dF ty Y (Y+Ht)).1)).setCell (p:=⟨r,7,none⟩) hrl (.int .i64 (dF tx X (X+Wd)).2)).setCell (p:=⟨r,8,none⟩) hrl (.int .i64 (dF ty Y (Y+Ht)).2)).setCell (p:=⟨r,9,none⟩) hrl (.int .i64 ty.most))
    generalize (((((((((w4.setCell ⟨r,0,none⟩ (.int .i64 i)).setCell ⟨r,1,none⟩ (.int .i64 X)).setCell ⟨r,2,none⟩ (.int .i64 Y)).setCell ⟨r,3,none⟩ (.int .i64 Wd)).setCell ⟨r,4,none⟩ (.int .i64 Ht)).setCell ⟨r,5,none⟩ (.int .i64 (dF tx X (X+Wd)).1)).setCell ⟨r,6,none⟩ (.int .i64 (dF ty Y (Y+Ht)).1)).setCell ⟨r,7,none⟩ (.int .i64 (dF tx X (X+Wd)).2)).setCell ⟨r,8,none⟩ (.int .i64 (dF ty Y (Y+Ht)).2)).setCell ⟨r,9,none⟩ (.int .i64 ty.most)=w5 at hr5 B5 ⊢
    clear p0 z0 y0 p1 z1 y1 p2 z2 y2 p3 z3 y3 p4 z4 y4 p5 z5 y5 p6 z6 y6 p7 z7 y7 p8 z8 y8 p9 z9 y9
    have p0:w5.cell? ⟨r,0,none⟩=some (.int .i64 i):=(au hr5 0).trans rfl
    have p1:w5.cell? ⟨r,1,none⟩=some (.int .i64 X):=(au hr5 1).trans rfl
    have p2:w5.cell? ⟨r,2,none⟩=some (.int .i64 Y):=(au hr5 2).trans rfl
    have p3:w5.cell? ⟨r,3,none⟩=some (.int .i64 Wd):=(au hr5 3).trans rfl
    have p4:w5.cell? ⟨r,4,none⟩=some (.int .i64 Ht):=(au hr5 4).trans rfl
    have p5:w5.cell? ⟨r,5,none⟩=some (.int .i64 (dF tx X (X+Wd)).1):=(au hr5 5).trans rfl
    have p6:w5.cell? ⟨r,6,none⟩=some (.int .i64 (dF ty Y (Y+Ht)).1):=(au hr5 6).trans rfl
    have p7:w5.cell? ⟨r,7,none⟩=some (.int .i64 (dF tx X (X+Wd)).2):=(au hr5 7).trans rfl
    have p8:w5.cell? ⟨r,8,none⟩=some (.int .i64 (dF ty Y (Y+Ht)).2):=(au hr5 8).trans rfl
    have p9:w5.cell? ⟨r,9,none⟩=some (.int .i64 ty.most):=(au hr5 9).trans rfl
    clear hr5
    try simp only [Exit.inBlock,Exit.then]
    go_wp2
    try simp only [Exit.inBlock,Exit.then]
    refine bodyPost_ret (by simp [results,Tryz.results27,go_sem,p0,p1,p2,p3,p4,p5,p6,p7,p8,p9];try rfl) rfl ?_
    exact ⟨rfl,B5.out⟩
end Go.Proofs.YtpondkggmcmpfaaGreatDoor.QA
namespace Go.Proofs.YtpondkggmcmpfaaGreatDoor.QA
open Go.RowKit Go.Proofs.YtpondkggmcmpfaaGreatDoorW.PrintWords Go.Proofs.YtpondkggmcmpfaaGreatDoorW.PrintLast Go.Proofs.YtpondkggmcmpfaaGreatDoorW.PrintMore Go.Proofs.YtpondkggmcmpfaaGreatDoor.T
set_option linter.unusedVariables false
set_option linter.unusedSimpArgs false
def agY (tx ty:Tab) (tw th i:Int):S67:=⟨i,jO tx tw i,jP tx tw th i,outW tx tw i,pX tx ty tw th i,(dF tx (jO tx tw i) (jO tx tw i+outW tx tw i)).1,(dF ty (jP tx tw th i) (jP tx tw th i+pX tx ty tw th i)).1,(dF tx (jO tx tw i) (jO tx tw i+outW tx tw i)).2,(dF ty (jP tx tw th i) (jP tx tw th i+pX tx ty tw th i)).2,ty.most⟩
def aq5 (t:S67):Value := .agg #[.int .i64 t.f0,.int .i64 t.f1,.int .i64 t.f2,.int .i64 t.f3,.int .i64 t.f4,.int .i64 t.f5,.int .i64 t.f6,.int .i64 t.f7,.int .i64 t.f8,.int .i64 t.f9]
def aac (tx ty:Tab) (tw th:Int) (n:Nat):List S67:=(List.range n).map (fun j:Nat=>agY tx ty tw th (j:Int))
theorem aap (tx ty:Tab) (tw th:Int) (n:Nat):(aac tx ty tw th n).length=n:=by unfold aac;rw [List.length_map,List.length_range]
theorem apY (tx ty:Tab) (tw th:Int) {n j:Nat} (h:j < n):uT (aac tx ty tw th n) (j:Int)=agY tx ty tw th (j:Int):=by
  unfold uT aac
  rw [Int.toNat_natCast,List.getD_eq_getElem?_getD,List.getElem?_map,List.getElem?_range h];rfl
theorem arT (bp bx bz:Nat) (bd tw th:Int) (tx ty:Tab) (i:Int) (w:World) (h:qM w bp bx bz bd tw th tx ty) (B:sS tw th tx ty) (i0:0≤i) (i1:i < dh tx.lines.length tw*dh ty.lines.length th) :
    Calls Tryz.prog 27 #[.pointer (some ⟨bp,0,none⟩),.int .i64 i] w fun e w'=>e = .returned (.tuple #[aq5 (agY tx ty tw th i),.bool true])∧Below w.heap.size w w':=agX bp bx bz bd tw th tx ty i w h B i0 i1
theorem apZ:(Tryz.prog.info? 58).map (fun i=>(i.zero,i.size,i.bytes))=some (some (.agg #[.int .i64 0,.int .i64 0,.int .i64 0,.int .i64 0,.int .i64 0,.int .i64 0,.int .i64 0,.int .i64 0,.int .i64 0,.int .i64 0]),10,80):=by kernel_rfl
theorem abh {w:World} {g t:Nat} {v0 v1 v2 v3 v4 v5 v6 v7 v8 v9:Value} (h:w.heap[g]? = some (.cells #[v0,v1,v2,v3,v4,v5,v6,v7,v8,v9] t (0,0))):w.cell? ⟨g,0,none⟩=some v0∧w.cell? ⟨g,1,none⟩=some v1∧w.cell? ⟨g,2,none⟩=some v2∧w.cell? ⟨g,3,none⟩=some v3∧w.cell? ⟨g,4,none⟩=some v4∧w.cell? ⟨g,5,none⟩=some v5∧w.cell? ⟨g,6,none⟩=some v6∧w.cell? ⟨g,7,none⟩=some v7∧w.cell? ⟨g,8,none⟩=some v8∧w.cell? ⟨g,9,none⟩=some v9 :=
  ⟨(au h 0).trans rfl,(au h 1).trans rfl,(au h 2).trans rfl,(au h 3).trans rfl,(au h 4).trans rfl,(au h 5).trans rfl,(au h 6).trans rfl,(au h 7).trans rfl,(au h 8).trans rfl,(au h 9).trans rfl⟩
set_option maxHeartbeats 8000000 in
set_option maxRecDepth 100000 in
theorem ahV (bp bx bz:Nat) (bd tw th:Int) (tx ty:Tab) (n:Nat) (w:World) (h:qM w bp bx bz bd tw th tx ty) (B:sS tw th tx ty) (hn:(n:Int)=dh tx.lines.length tw*dh ty.lines.length th) (hm:n≤4096) :
    Calls Tryz.prog 21 #[.pointer (some ⟨bp,0,none⟩)] w fun e w'=>Below w.heap.size w w'∧∃ A c,e = .returned (.slice A n c)∧n≤c∧Kd.C k67 w' A n (aac tx ty tw th n):=by
  have CO:=aj.mk (aao bp bx bz bd tw th tx ty w h B)
  rw [← hn] at CO
  have TI:=aj.mk (fun (i:Nat) (hi:i < n) w' (hb:Below w.heap.size w w')=>arT bp bx bz bd tw th tx ty (i:Int) w' (h.below hb) B (by omega) (by omega))
  have mixed:Tryz.prog.follows .mixedOrders=true:=by kernel_rfl
  clear h B hn
  go_enter Tryz.func21,Tryz.ntmps21
  go_wp2_with (go_at_call 25;(with_reducible refine CO.out.mono ?_);rintro e w1 ⟨rfl,⟨nd,rfl⟩⟩)
  go_loopg [3,9] n (fun kx s3 s9 wr=>∃ (i:Nat) (ts:List S67),s9 = .int .i64 i∧i≤n∧n - i≤kx∧aj (Below w.heap.size w wr)∧aj (Kd.R k67 58 wr w.heap.size (fun _=>True) s3 ts)∧aj (ts=aac tx ty tw th i))
  case atStart=>exact ⟨0,[],rfl,by omega,by omega,⟨by repeat (first|(with_reducible first|exact Below.refl _ _|apply aI|apply bg)|exact Below.refl _ _)⟩,⟨Kd.kF _ _ _ _ _⟩,⟨rfl⟩⟩
  case round =>
    obtain ⟨i,ts,rfl,i1,i2,HB,HO,HL⟩:=hrel
    have wi:IntKind.i64.wrap ((i:Int)+1)=(i:Int)+1:=by rw [kU];exact aC (by omega) (by omega)
    by_cases hlt:(i:Int) < (n:Int)
    rotate_left
    · have him:i=n:=by omega
      subst him
      have hv:=HO.out
      obtain ⟨A,c,rfl,h3,h4⟩:=Kd.xY hv
      have H3:=aj.mk h3
      have H4:=aj.mk h4
      clear h3 h4 hv
      go_wp2
      go_ret
      refine ⟨HB.out,A,c,by rw [HL.out,aap];rfl,by have:=H3.out;rwa [HL.out,aap] at this,?_⟩
      have:=H4.out
      rw [HL.out,aap] at this
      exact this
    have q0:i < n:=by omega
    have T1:=aj.mk (TI.out i q0 wr HB.out)
    obtain ⟨t,ht⟩:∃ t,t=agY tx ty tw th (i:Int):=⟨_,rfl⟩
    rw [← ht] at T1
    have HT:=aj.mk ht
    clear ht
    have HPM:=aj.mk (fun w'=>arz w' w.heap.size (fun _=>False) t)
    unfold aq5 at T1
    go_upto_region 6 with (go_at_call 27;(with_reducible refine T1.out.mono ?_);rintro e w2 ⟨rfl,hb2⟩;have B2:=aj.mk (ak HB.out hb2);have HO2:=aj.mk (Kd.jQ HO.out hb2);clear hb2)
    have hr:=heap_alloc_new w2 (.cells #[.int .i64 t.f0,.int .i64 t.f1,.int .i64 t.f2,.int .i64 t.f3,.int .i64 t.f4,.int .i64 t.f5,.int .i64 t.f6,.int .i64 t.f7,.int .i64 t.f8,.int .i64 t.f9] 58)
    have ba:=aT (Below.refl w2.heap.size w2) (.cells #[.int .i64 t.f0,.int .i64 t.f1,.int .i64 t.f2,.int .i64 t.f3,.int .i64 t.f4,.int .i64 t.f5,.int .i64 t.f6,.int .i64 t.f7,.int .i64 t.f8,.int .i64 t.f9] 58)
    have B3:=aj.mk (ak B2.out ba)
    have HO3:=aj.mk (Kd.jQ HO2.out ba)
    obtain ⟨g,hg⟩:∃ g,g=w2.heap.size:=⟨_,rfl⟩
    rw [← hg] at hr ⊢
    clear hg ba HO2 B2
    generalize w2.alloc (.cells #[.int .i64 t.f0,.int .i64 t.f1,.int .i64 t.f2,.int .i64 t.f3,.int .i64 t.f4,.int .i64 t.f5,.int .i64 t.f6,.int .i64 t.f7,.int .i64 t.f8,.int .i64 t.f9] 58)=w3 at hr B3 HO3 ⊢
    obtain ⟨z0,z1,z2,z3,z4,z5,z6,z7,z8,z9⟩:=abh hr
    have HSS:=aj.mk (show ts.length≤4096 by rw [HL.out,aap];omega)
    clear hr
    go_upto_region 7 with (at_builtin;refine Kd.kZ k67 (w0:=w) w.heap.size rfl (.tmp 18) (.tmp 20) 53 58 (.agg #[.int .i64 0,.int .i64 0,.int .i64 0,.int .i64 0,.int .i64 0,.int .i64 0,.int .i64 0,.int .i64 0,.int .i64 0,.int .i64 0]) 80 rfl Tryz.underlying53 apZ rfl (by decide) (by omega) u3 ts t [.int .i64 t.f0,.int .i64 t.f1,.int .i64 t.f2,.int .i64 t.f3,.int .i64 t.f4,.int .i64 t.f5,.int .i64 t.f6,.int .i64 t.f7,.int .i64 t.f8,.int .i64 t.f9] (fun _=>True) (fun _=>False) rfl rfl (HPM.out _) (fun _ hk=>hk.elim) (fun _ _=>trivial) HO3.out B3.out B3.out.size (by have:=HSS.out;omega) ?_;intro v1 w8 ho8 hb8 hg8 awj;have HO8:=aj.mk ho8;have HB8:=aj.mk hb8;clear ho8 hb8 hg8 awj)
    go_wp2
    go_roundg (n - (i+1))
    case measure=>omega
    case rel=>exact ⟨i+1,ts ++ [t],by simp,by omega,Nat.le_refl _,HB8,HO8,⟨by rw [HL.out,HT.out];unfold aac;rw [List.range_succ,List.map_append];rfl⟩⟩
end Go.Proofs.YtpondkggmcmpfaaGreatDoor.QA
