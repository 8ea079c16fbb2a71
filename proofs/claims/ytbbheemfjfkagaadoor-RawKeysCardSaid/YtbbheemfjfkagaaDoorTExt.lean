/- Words for what the model itself stands in for. -/
import Derived.Test.YtbbheemfjfkagaaDoorProg
import Derived.Laws.Externs
namespace Go.Proofs.YtbbheemfjfkagaaDoor.T
/-- math/bits.Add64: the sum, going round. -/
def add64s (x y c : Int) : Int := (x.toNat + y.toNat + c.toNat : Nat) % 18446744073709551616
/-- math/bits.Add64: what is carried. -/
def add64c (x y c : Int) : Int := (x.toNat + y.toNat + c.toNat : Nat) / 18446744073709551616
theorem ext_call (x y c : Int) (hc : c ≤ 1) (w : World) :
    (callFunc 19 #[.int .u64 x, .int .u64 y, .int .u64 c]).run Tryd.prog w = .ok (.value (.tuple #[.int .u64 (add64s x y c), .int .u64 (add64c x y c)])) w := by
  have key : ∀ k : Nat, k ≤ 1 → (add64Entry #[.int .u64 x, .int .u64 y, .int .u64 (k : Int)]).run Tryd.prog w =
      .ok (Extern.MathBitsCarry.pair ((x.toNat + y.toNat + k) % Extern.MathBitsCarry.m64) ((x.toNat + y.toNat + k) / Extern.MathBitsCarry.m64)) w := by
    intro k hk
    have : k = 0 ∨ k = 1 := by omega
    rcases this with rfl | rfl <;> rfl
  have neg : ∀ k : Nat, (add64Entry #[.int .u64 x, .int .u64 y, .int .u64 (-(k : Int) - 1)]).run Tryd.prog w =
      .ok (Extern.MathBitsCarry.pair ((x.toNat + y.toNat + 0) % Extern.MathBitsCarry.m64) ((x.toNat + y.toNat + 0) / Extern.MathBitsCarry.m64)) w := by
    intro k
    have e : -(k : Int) - 1 = Int.negSucc k := by omega
    rw [e]; rfl
  have run : (add64Entry #[.int .u64 x, .int .u64 y, .int .u64 c]).run Tryd.prog w =
      .ok (Extern.MathBitsCarry.pair ((x.toNat + y.toNat + c.toNat) % Extern.MathBitsCarry.m64) ((x.toNat + y.toNat + c.toNat) / Extern.MathBitsCarry.m64)) w := by
    by_cases h : 0 ≤ c
    · obtain ⟨k, rfl⟩ := Int.eq_ofNat_of_zero_le h
      rw [key k (by omega)]; simp
    · obtain ⟨k, hk⟩ : ∃ k : Nat, c = -(k : Int) - 1 := ⟨(-c - 1).toNat, by omega⟩
      rw [hk, neg k, show (-(k : Int) - 1).toNat = 0 from by omega]
  rw [run_callFunc_extern Tryd.func19 (by kernel_rfl) (by kernel_rfl) (by kernel_rfl) (e := add64Entry) (by kernel_rfl), run]
  simp only [Result.andThen, Extern.MathBitsCarry.pair, Extern.MathBitsCarry.m64, add64s, add64c]
  congr 5 <;> simp
end Go.Proofs.YtbbheemfjfkagaaDoor.T
