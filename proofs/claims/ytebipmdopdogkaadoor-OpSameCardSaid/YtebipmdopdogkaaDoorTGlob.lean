/- What the laid package-level variables hold, and that it stays. -/
import Derived.Below
namespace Go.Proofs.YtebipmdopdogkaaDoor.T
open Go.RowKit
/-- What the laid package-level variables hold. -/
def GL (w : World) : Prop := (w.cell? ⟨1, 0, none⟩ = some (.string (⟨#[98, 111, 120]⟩ : ByteArray)) ∧ w.cell? ⟨1, 1, none⟩ = some (.int .i64 0) ∧ w.cell? ⟨1, 2, none⟩ = some (.string (⟨#[99, 117, 98, 105, 99]⟩ : ByteArray)) ∧ w.cell? ⟨1, 3, none⟩ = some (.int .i64 2) ∧ w.cell? ⟨1, 4, none⟩ = some (.string (⟨#[108, 97, 110, 99, 122, 111, 115]⟩ : ByteArray)) ∧ w.cell? ⟨1, 5, none⟩ = some (.int .i64 3)) ∧ (∃ (a : Addr) (c : Nat), 3 ≤ c ∧ w.cell? ⟨0, 0, none⟩ = some (.slice (some a) 3 c) ∧ w.cell? a = some (.string (⟨#[99, 108, 97, 109, 112]⟩ : ByteArray)) ∧ w.cell? ⟨a.block, a.off + 1, none⟩ = some (.string (⟨#[109, 105, 114, 114, 111, 114]⟩ : ByteArray)) ∧ w.cell? ⟨a.block, a.off + 2, none⟩ = some (.string (⟨#[119, 114, 97, 112]⟩ : ByteArray)))
theorem cell_below {w w' : World} {p : Addr} {v : Value} (h : w.cell? p = some v) (hb : Below w.heap.size w w') : w'.cell? p = some v := (hb.cell (World.block_lt_of_cell? w _ h)).trans h
theorem GL.below {w w' : World} (h : GL w) (hb : Below w.heap.size w w') : GL w' := by
  obtain ⟨⟨h0_0, h0_1, h0_2, h0_3, h0_4, h0_5⟩, ⟨ga1_, gc1_, gl1_, gs1_, h1_0, h1_1, h1_2⟩⟩ := h
  exact ⟨⟨cell_below h0_0 hb, cell_below h0_1 hb, cell_below h0_2 hb, cell_below h0_3 hb, cell_below h0_4 hb, cell_below h0_5 hb⟩, ⟨ga1_, gc1_, gl1_, cell_below gs1_ hb, cell_below h1_0 hb, cell_below h1_1 hb, cell_below h1_2 hb⟩⟩
end Go.Proofs.YtebipmdopdogkaaDoor.T
