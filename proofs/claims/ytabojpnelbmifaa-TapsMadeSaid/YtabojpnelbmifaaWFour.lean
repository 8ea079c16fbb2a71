-- Began as the print's words; what this seat does not lean on is left out (wip/tools/prune.py).
import Derived.Test.YtabojpnelbmifaaWTab
/-! ### 56. Four, five, six operations that may come up next, in any order -/
namespace Go.Proofs.YtabojpnelbmifaaW.PrintLast
section
variable {P : Program} {ops : Array Oper} {Q : Exit → Act → World → Prop} {md : Region.Mode} {S : World → Prop} {ds : List Nat} {T : Bool × List (List Nat × List Nat)}
end
end Go.Proofs.YtabojpnelbmifaaW.PrintLast
