/-
  DERIVED. GIVEN WITH THE SEED: THE CARDS: each row of YtjenkaobmlpbgaaGreatDoorRows.lean that lists a variable, with what it lists TIED to the program's text (the seventh form; the later family's looks); each row that meets fmt, with fmt's text TOLD by the authors' own Lean function (tested against real Go, not proved from fmt's source: count such statements apart). THE CARD IS WHAT COUNTS. Prove the row's statement (the work); the ties are given (YtjenkaobmlpbgaaGreatDoorTie.lean); close each card by the builder's one call (the guide's Derived/Test/ToyasCard.lean, 'card_holds'). Laid BY PROGRAM, IN A SANDBOX (cutbox-door.mjs). By AI agents, Wed Nov 11 2026. No macro, syntax, notation, axiom, sorry.
-/
import Derived.Test.YtjenkaobmlpbgaaGreatDoorRows
import GoSem.ClaimSeven
namespace Go.Proofs.YtjenkaobmlpbgaaGreatDoor
namespace Rows

/-- THE TIED CARD OF 'smaltolaw15.DirectRounds'. -/
def directRoundsCard : Claim7 := { stood := { row := directRoundsRow, standIns := [], harness := (true, "c587eaba8152460e675997815ba745e8a4f1754ef17303847bfa922c576b6eca"), looks := false }, kinds := [], alts := [], laidByText := true, laidKinds := [.widerDeep, .data], laidTests := true, laidLooks := .later }
def DirectRoundsCardSaid : Prop := Claim7.holds Tryz.pinned (.plain (OpenSpec.ofChange directRoundsSpec)) directRoundsCard

/-- THE SECOND FORM's CARD OF 'smaltolaw15.DirectRounds'. -/
def directRoundsUptoCard : Claim7 := { stood := { row := directRoundsUptoRow, standIns := [], harness := (true, "c587eaba8152460e675997815ba745e8a4f1754ef17303847bfa922c576b6eca"), looks := false }, kinds := [], alts := [], laidByText := true, laidKinds := [.widerDeep, .data], laidTests := true, laidLooks := .later }
def DirectRoundsUptoCardSaid : Prop := Claim7.holds Tryz.pinned (.plain (OpenSpec.upto directRoundsSpec)) directRoundsUptoCard
end Rows
end Go.Proofs.YtjenkaobmlpbgaaGreatDoor
