-- Began as the print's words; what this seat does not lean on is left out (wip/tools/prune.py).
import Derived.Test.YtabojpnelbmifaaWInv
import Derived.Test.YtabojpnelbmifaaWFootNe
namespace Go.Proofs.YtabojpnelbmifaaW.PrintWords
open Go.RowKit
end Go.Proofs.YtabojpnelbmifaaW.PrintWords
namespace Go.Proofs.YtabojpnelbmifaaW.PrintLast
section
variable {ops : Array Oper} {a : Act} {o og : Oper} {g : Nat} {t : Tmp} {u : Bool}
end
end Go.Proofs.YtabojpnelbmifaaW.PrintLast
