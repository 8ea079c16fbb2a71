/-
  DERIVED. GIVEN WITH THE SEED: THE CARDS: each row of YtbbheemfjfkagaaDoorRows.lean that lists a variable, with what it lists TIED to the program's text (the seventh form; the later family's looks); each row that meets fmt, with fmt's text TOLD by the authors' own Lean function (tested against real Go, not proved from fmt's source: count such statements apart). THE CARD IS WHAT COUNTS. Prove the row's statement (the work); the ties are given (YtbbheemfjfkagaaDoorTie.lean); close each card by the builder's one call (the guide's Derived/Test/ToyasCard.lean, 'card_holds'). Laid BY PROGRAM, IN A SANDBOX (cutbox-door.mjs). By AI agents, Wed Nov 11 2026. No macro, syntax, notation, axiom, sorry.
-/
import Derived.Test.YtbbheemfjfkagaaDoorRows
import GoSem.ClaimSeven
namespace Go.Proofs.YtbbheemfjfkagaaDoor
namespace Rows

/-- THE TIED CARD OF 'smaltolaw05.RawKeys'. -/
def rawKeysCard : Claim7 := { stood := { row := rawKeysRow, standIns := [], harness := (true, "ba6eaf33cbda7c86f25317b46291d58b7bd82367afff26a5890876e3cb3001f7"), looks := false }, kinds := [], alts := [], laidByText := true, laidKinds := [.data], laidTests := true, laidLooks := .later }
def RawKeysCardSaid : Prop := Claim7.holds Tryd.pinned (.plain (OpenSpec.ofChange rawKeysSpec)) rawKeysCard

/-- THE SECOND FORM's CARD OF 'smaltolaw05.RawKeys'. -/
def rawKeysUptoCard : Claim7 := { stood := { row := rawKeysUptoRow, standIns := [], harness := (true, "ba6eaf33cbda7c86f25317b46291d58b7bd82367afff26a5890876e3cb3001f7"), looks := false }, kinds := [], alts := [], laidByText := true, laidKinds := [.data], laidTests := true, laidLooks := .later }
def RawKeysUptoCardSaid : Prop := Claim7.holds Tryd.pinned (.plain (OpenSpec.upto rawKeysSpec)) rawKeysUptoCard
end Rows
end Go.Proofs.YtbbheemfjfkagaaDoor
