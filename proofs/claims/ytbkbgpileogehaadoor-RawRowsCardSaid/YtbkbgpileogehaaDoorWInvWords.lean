-- Began as the print's words; what this seat does not lean on is left out (wip/tools/prune.py).
import Derived.Test.YtbkbgpileogehaaDoorWInv
import Derived.Test.YtbkbgpileogehaaDoorWFootNe
namespace Go.Proofs.YtbkbgpileogehaaDoorW.PrintWords
open Go.RowKit
end Go.Proofs.YtbkbgpileogehaaDoorW.PrintWords
namespace Go.Proofs.YtbkbgpileogehaaDoorW.PrintLast
section
variable {ops : Array Oper} {a : Act} {o og : Oper} {g : Nat} {t : Tmp} {u : Bool}
end
end Go.Proofs.YtbkbgpileogehaaDoorW.PrintLast
