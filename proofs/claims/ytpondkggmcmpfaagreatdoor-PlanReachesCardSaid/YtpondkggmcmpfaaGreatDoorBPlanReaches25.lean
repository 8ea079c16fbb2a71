/- Joined by wip/tools/bundle.py out of: TE. -/
import Derived.Test.YtpondkggmcmpfaaGreatDoorBPlanReaches1
import Derived.Test.YtpondkggmcmpfaaGreatDoorBPlanReaches14
import Derived.Handy
import Derived.Lib.SliceRun
import Derived.Test.YtpondkggmcmpfaaGreatDoorBPlanReaches0
import Derived.Test.YtpondkggmcmpfaaGreatDoorBPlanReaches8
import Derived.Test.YtpondkggmcmpfaaGreatDoorBPlanReaches10
import Derived.Test.YtpondkggmcmpfaaGreatDoorBPlanReaches21
namespace Go.Proofs.YtpondkggmcmpfaaGreatDoor.QA
open Go.RowKit Go.Proofs.YtpondkggmcmpfaaGreatDoorW.PrintWords Go.Proofs.YtpondkggmcmpfaaGreatDoorW.PrintLast Go.Proofs.YtpondkggmcmpfaaGreatDoorW.PrintMore Go.Proofs.YtpondkggmcmpfaaGreatDoor.T
set_option linter.unusedVariables false
set_option linter.unusedSimpArgs false
set_option maxHeartbeats 8000000 in
set_option maxRecDepth 100000 in
theorem adv (bp bx bz:Nat) (bd tw th:Int) (tx ty:Tab) (c:Int) (w:World) (h:rO w bp bx bz bd tw th tx ty) :
    Calls Tryz.prog 30 #[.pointer (some ⟨bp,0,none⟩),.int .i64 c] w fun e w'=>e = .returned (.int .i64 (wrap64 (wrap64 (ty.most*min tw (tx.lines.length:Int))*max 0 c)))∧dw w w':=by
  obtain ⟨h0,hx,hy⟩:=h
  obtain ⟨c0,c1,c2,c3,c4⟩:=oK h0
  have TO:=aj.mk (fun n=>pF bx tx (w.drewN n) (hx.drewN n))
  have MO:=aj.mk (fun n=>acQ bz ty (w.drewN n) (hy.drewN n))
  clear h0 hx hy
  go_enter Tryz.func30,Tryz.ntmps30
  go_wp2
  go_quiet (first
    | (go_at_call 22;exact Calls.quiet_of_same (TO.out _))
    | (go_at_call 23;exact Calls.quiet_of_same (MO.out _)))
  go_wp2
  go_ret
  exact ⟨rfl,⟨⟨nq,rfl⟩⟩⟩
end Go.Proofs.YtpondkggmcmpfaaGreatDoor.QA
