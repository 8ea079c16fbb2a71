-- Began as the print's words; what this seat does not lean on is left out (wip/tools/prune.py).
import Derived.Test.YtabojpnelbmifaaWWords
import Derived.Laws.StructEq
/-! ### 53. '==' of structs as_ one Bool -/
namespace Go.Proofs.YtabojpnelbmifaaW.PrintWords
open Go.RowKit
section
variable {P : Program} {d : Nat} {xs ys : Array Value} {f : Field} {fs : List Field} {a b : Value} {r s : Bool} {w : World}
end
end Go.Proofs.YtabojpnelbmifaaW.PrintWords
