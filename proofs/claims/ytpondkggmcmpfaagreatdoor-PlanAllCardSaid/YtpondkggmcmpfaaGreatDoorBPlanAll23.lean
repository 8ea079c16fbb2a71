/- Joined by wip/tools/bundle.py out of: TP. -/
import Derived.Test.YtpondkggmcmpfaaGreatDoorBPlanAll1
import Derived.Test.YtpondkggmcmpfaaGreatDoorBPlanAll14
import Derived.Handy
import Derived.Lib.SliceRun
import Derived.Test.YtpondkggmcmpfaaGreatDoorBPlanAll0
import Derived.Test.YtpondkggmcmpfaaGreatDoorBPlanAll8
import Derived.Test.YtpondkggmcmpfaaGreatDoorBPlanAll10
import Derived.Test.YtpondkggmcmpfaaGreatDoorBPlanAll15
import Derived.Test.YtpondkggmcmpfaaGreatDoorBPlanAll21
namespace Go.Proofs.YtpondkggmcmpfaaGreatDoor.QA
open Go.RowKit Go.Proofs.YtpondkggmcmpfaaGreatDoorW.PrintWords Go.Proofs.YtpondkggmcmpfaaGreatDoorW.PrintLast Go.Proofs.YtpondkggmcmpfaaGreatDoorW.PrintMore Go.Proofs.YtpondkggmcmpfaaGreatDoor.T
set_option linter.unusedVariables false
set_option linter.unusedSimpArgs false
theorem amL {n s j:Int} (h3:1≤s) (h:j*s+s < n):j+1 < dO n s:=by
  have q:j+2≤dO n s:=(Int.le_ediv_iff_mul_le (by omega)).2 (by rw [Int.add_mul];omega)
  omega
theorem anJ {n s:Int} (h3:1≤s):n≤dO n s*s:=by
  have h1:=Int.emod_add_mul_ediv (n+s - 1) s
  have h2:=Int.emod_lt_of_pos (n+s - 1) (show 0 < s by omega)
  have e:dO n s*s=s*((n+s - 1) / s):=by rw [Int.mul_comm];rfl
  rw [e];omega
theorem row_step {c i:Int} (hc:0 < c):(i % c+1=c→(i+1) % c=0∧(i+1) / c=i / c+1)∧(i % c+1≠c→(i+1) % c=i % c+1∧(i+1) / c=i / c):=by
  have h1:=Int.emod_add_mul_ediv i c
  have h2:=Int.emod_lt_of_pos i hc
  have h3:=Int.emod_nonneg i (show c≠0 by omega)
  refine ⟨fun h => ?_,fun h => ?_⟩
  · have:=(Int.ediv_emod_unique (a:=i+1) (b:=c) (r:=0) (q:=i / c+1) hc).2 ⟨by rw [Int.mul_add];omega,by omega,by omega⟩
    exact ⟨this.2,this.1⟩
  · have:=(Int.ediv_emod_unique (a:=i+1) (b:=c) (r:=i % c+1) (q:=i / c) hc).2 ⟨by omega,by omega,by omega⟩
    exact ⟨this.2,this.1⟩
theorem anK {tx ty:Tab} {tw th i:Int} (B:xC tw th tx ty):((tx.lines.length:Int)≤kR tx tw i+tw→kR tx tw (i+1)=0∧lU tx tw th (i+1)=lU tx tw th i+th)∧(¬ (tx.lines.length:Int)≤kR tx tw i+tw→kR tx tw (i+1)=kR tx tw i+tw∧lU tx tw th (i+1)=lU tx tw th i):=by
  have b1:=pW (n:=(tx.lines.length:Int)) (s:=tw) (by have:=B.x1;omega) (by have:=B.x2;omega) B.w1 B.w2
  have w1:=B.w1
  have hl:=Int.emod_lt_of_pos i (show 0 < dO tx.lines.length tw by omega)
  have hs:=row_step (c:=dO tx.lines.length tw) (i:=i) (by omega)
  have hn:=amL (n:=(tx.lines.length:Int)) (s:=tw) (j:=i % dO tx.lines.length tw) w1
  have hp:=afI (n:=(tx.lines.length:Int)) (s:=tw) (j:=i % dO tx.lines.length tw+1) w1
  rw [Int.add_mul] at hp
  unfold kR lU
  refine ⟨fun h => ?_,fun h => ?_⟩
  · have hc:i % dO tx.lines.length tw+1=dO tx.lines.length tw:=by omega
    rw [(hs.1 hc).1,(hs.1 hc).2,Int.add_mul];exact ⟨Int.zero_mul _,by omega⟩
  · have hc:i % dO tx.lines.length tw+1≠dO tx.lines.length tw:=by have:=hn (by omega);omega
    rw [(hs.2 hc).1,(hs.2 hc).2,Int.add_mul];exact ⟨by omega,rfl⟩
theorem aki (tx:Tab) (tw th:Int):kR tx tw 0=0∧lU tx tw th 0=0:=by unfold kR lU;rw [Int.zero_emod,Int.zero_ediv];exact ⟨Int.zero_mul _,Int.zero_mul _⟩
theorem arl {tx ty:Tab} {tw th:Int} (B:xC tw th tx ty):kR tx tw (dO tx.lines.length tw*dO ty.lines.length th)=0∧(ty.lines.length:Int)≤lU tx tw th (dO tx.lines.length tw*dO ty.lines.length th):=by
  have b1:=pW (n:=(tx.lines.length:Int)) (s:=tw) (by have:=B.x1;omega) (by have:=B.x2;omega) B.w1 B.w2
  unfold kR lU
  rw [Int.mul_emod_right,Int.mul_ediv_cancel_left _ (by omega)]
  exact ⟨Int.zero_mul _,anJ B.h1⟩
end Go.Proofs.YtpondkggmcmpfaaGreatDoor.QA
