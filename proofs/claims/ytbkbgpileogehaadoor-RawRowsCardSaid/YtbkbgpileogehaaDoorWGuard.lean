-- Began as the print's words; what this seat does not lean on is left out (wip/tools/prune.py).
import Derived.Test.YtbkbgpileogehaaDoorWWords
/-! ### 58. A guarded operation whose guard is known to want it: the same goal without the guard -/
namespace Go.Proofs.YtbkbgpileogehaaDoorW.PrintWords
open Go.RowKit
section
variable {P : Program} {ops : Array Oper} {rest : List Oper} {o : Oper} {a : Act} {Q : Exit → Act → World → Prop} {W : World}
end
end Go.Proofs.YtbkbgpileogehaaDoorW.PrintWords
