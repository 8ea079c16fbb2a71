/- Words for what the model itself stands in for. -/
import Derived.Test.YtofmgoihoaookaaDoorProg
import Derived.Laws.Externs
namespace Go.Proofs.YtofmgoihoaookaaDoor.T
/-- math/bits.Add64: the sum, going round. -/
def add64s (x y c : Int) : Int := (x.toNat + y.toNat + c.toNat : Nat) % 18446744073709551616
/-- math/bits.Add64: what is carried. -/
def add64c (x y c : Int) : Int := (x.toNat + y.toNat + c.toNat : Nat) / 18446744073709551616
end Go.Proofs.YtofmgoihoaookaaDoor.T
