/-
  DERIVED. GIVEN WITH THE SEED: THE CARDS: each row of YtbcoieboldgdaaaGreatDoorRows.lean that lists a variable, with what it lists TIED to the program's text (the seventh form; the later family's looks); each row that meets fmt, with fmt's text TOLD by the authors' own Lean function (tested against real Go, not proved from fmt's source: count such statements apart). THE CARD IS WHAT COUNTS. Prove the row's statement (the work); the ties are given (YtbcoieboldgdaaaGreatDoorTie.lean); close each card by the builder's one call (the guide's Derived/Test/ToyasCard.lean, 'card_holds'). Laid BY PROGRAM, IN A SANDBOX (cutbox-door.mjs). By AI agents, Wed Nov 11 2026. No macro, syntax, notation, axiom, sorry.
-/
import Derived.Test.YtbcoieboldgdaaaGreatDoorRows
import GoSem.ClaimSeven
namespace Go.Proofs.YtbcoieboldgdaaaGreatDoor
namespace Rows

/-- THE TIED CARD OF 'smaltolaw15.DirectSuits'. -/
def directSuitsCard : Claim7 := { stood := { row := directSuitsRow, standIns := [], harness := (true, "e575b6ba734cd362838d98884027621aa1f912ac26c7b05e20382cdb2bba64e7"), looks := false }, kinds := [], alts := [], laidByText := true, laidKinds := [.widerDeep, .data], laidTests := true, laidLooks := .later }
def DirectSuitsCardSaid : Prop := Claim7.holds Tryz.pinned (.plain (OpenSpec.ofChange directSuitsSpec)) directSuitsCard

/-- THE SECOND FORM's CARD OF 'smaltolaw15.DirectSuits'. -/
def directSuitsUptoCard : Claim7 := { stood := { row := directSuitsUptoRow, standIns := [], harness := (true, "e575b6ba734cd362838d98884027621aa1f912ac26c7b05e20382cdb2bba64e7"), looks := false }, kinds := [], alts := [], laidByText := true, laidKinds := [.widerDeep, .data], laidTests := true, laidLooks := .later }
def DirectSuitsUptoCardSaid : Prop := Claim7.holds Tryz.pinned (.plain (OpenSpec.upto directSuitsSpec)) directSuitsUptoCard
end Rows
end Go.Proofs.YtbcoieboldgdaaaGreatDoor
