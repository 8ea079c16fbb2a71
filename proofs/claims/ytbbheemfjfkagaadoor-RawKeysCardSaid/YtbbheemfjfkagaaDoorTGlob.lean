/- What the laid package-level variables hold, and that it stays. -/
import Derived.Below
namespace Go.Proofs.YtbbheemfjfkagaaDoor.T
open Go.RowKit
/-- What the laid package-level variables hold. -/
def GL (w : World) : Prop := (w.cell? ⟨1, 0, none⟩ = some (.string (⟨#[98, 111, 120]⟩ : ByteArray)) ∧ w.cell? ⟨1, 1, none⟩ = some (.int .i64 0) ∧ w.cell? ⟨1, 2, none⟩ = some (.string (⟨#[99, 117, 98, 105, 99]⟩ : ByteArray)) ∧ w.cell? ⟨1, 3, none⟩ = some (.int .i64 2) ∧ w.cell? ⟨1, 4, none⟩ = some (.string (⟨#[108, 97, 110, 99, 122, 111, 115]⟩ : ByteArray)) ∧ w.cell? ⟨1, 5, none⟩ = some (.int .i64 3))
theorem cell_below {w w' : World} {p : Addr} {v : Value} (h : w.cell? p = some v) (hb : Below w.heap.size w w') : w'.cell? p = some v := (hb.cell (World.block_lt_of_cell? w _ h)).trans h
theorem GL.below {w w' : World} (h : GL w) (hb : Below w.heap.size w w') : GL w' := by
  obtain ⟨h0_0, h0_1, h0_2, h0_3, h0_4, h0_5⟩ := h
  exact ⟨cell_below h0_0 hb, cell_below h0_1 hb, cell_below h0_2 hb, cell_below h0_3 hb, cell_below h0_4 hb, cell_below h0_5 hb⟩
end Go.Proofs.YtbbheemfjfkagaaDoor.T
