/- What the laid package-level variables hold, and that it stays. -/
import Derived.Below
namespace Go.Proofs.YtofmgoihoaookaaDoor.T
open Go.RowKit
/-- What the laid package-level variables hold. -/
def GL (w : World) : Prop := (∃ (a : Addr) (c : Nat), 3 ≤ c ∧ w.cell? ⟨0, 0, none⟩ = some (.slice (some a) 3 c) ∧ w.cell? a = some (.string (⟨#[99, 108, 97, 109, 112]⟩ : ByteArray)) ∧ w.cell? ⟨a.block, a.off + 1, none⟩ = some (.string (⟨#[109, 105, 114, 114, 111, 114]⟩ : ByteArray)) ∧ w.cell? ⟨a.block, a.off + 2, none⟩ = some (.string (⟨#[119, 114, 97, 112]⟩ : ByteArray)))
theorem cell_below {w w' : World} {p : Addr} {v : Value} (h : w.cell? p = some v) (hb : Below w.heap.size w w') : w'.cell? p = some v := (hb.cell (World.block_lt_of_cell? w _ h)).trans h
theorem GL.below {w w' : World} (h : GL w) (hb : Below w.heap.size w w') : GL w' := by
  obtain ⟨ga0_, gc0_, gl0_, gs0_, h0_0, h0_1, h0_2⟩ := h
  exact ⟨ga0_, gc0_, gl0_, cell_below gs0_ hb, cell_below h0_0 hb, cell_below h0_1 hb, cell_below h0_2 hb⟩
end Go.Proofs.YtofmgoihoaookaaDoor.T
