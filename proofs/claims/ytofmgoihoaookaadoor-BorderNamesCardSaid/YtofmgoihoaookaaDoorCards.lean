/-
  DERIVED. GIVEN WITH THE SEED: THE CARDS: each row of YtofmgoihoaookaaDoorRows.lean that lists a variable, with what it lists TIED to the program's text (the seventh form; the later family's looks); each row that meets fmt, with fmt's text TOLD by the authors' own Lean function (tested against real Go, not proved from fmt's source: count such statements apart). THE CARD IS WHAT COUNTS. Prove the row's statement (the work); the ties are given (YtofmgoihoaookaaDoorTie.lean); close each card by the builder's one call (the guide's Derived/Test/ToyasCard.lean, 'card_holds'). Laid BY PROGRAM, IN A SANDBOX (cutbox-door.mjs). By AI agents, Wed Nov 11 2026. No macro, syntax, notation, axiom, sorry.
-/
import Derived.Test.YtofmgoihoaookaaDoorRows
import GoSem.ClaimSeven
namespace Go.Proofs.YtofmgoihoaookaaDoor
namespace Rows

/-- THE TIED CARD OF 'smaltolaw07.BorderNames'. -/
def borderNamesCard : Claim7 := { stood := { row := borderNamesRow, standIns := [], harness := (true, "14d9d181348aeef381a2b2cf09a3aa8f6ab2af57eeac4f43e51e12abc767ea02"), looks := false }, kinds := [], alts := [], laidByText := true, laidKinds := [.widerDeep], laidTests := true, laidLooks := .later }
def BorderNamesCardSaid : Prop := Claim7.holds Tryd.pinned (.plain (OpenSpec.ofChange borderNamesSpec)) borderNamesCard

/-- THE SECOND FORM's CARD OF 'smaltolaw07.BorderNames'. -/
def borderNamesUptoCard : Claim7 := { stood := { row := borderNamesUptoRow, standIns := [], harness := (true, "14d9d181348aeef381a2b2cf09a3aa8f6ab2af57eeac4f43e51e12abc767ea02"), looks := false }, kinds := [], alts := [], laidByText := true, laidKinds := [.widerDeep], laidTests := true, laidLooks := .later }
def BorderNamesUptoCardSaid : Prop := Claim7.holds Tryd.pinned (.plain (OpenSpec.upto borderNamesSpec)) borderNamesUptoCard
end Rows
end Go.Proofs.YtofmgoihoaookaaDoor
