/-
  DERIVED. GIVEN WITH THE SEED: THE CARDS: each row of YtebipmdopdogkaaDoorRows.lean that lists a variable, with what it lists TIED to the program's text (the seventh form; the later family's looks); each row that meets fmt, with fmt's text TOLD by the authors' own Lean function (tested against real Go, not proved from fmt's source: count such statements apart). THE CARD IS WHAT COUNTS. Prove the row's statement (the work); the ties are given (YtebipmdopdogkaaDoorTie.lean); close each card by the builder's one call (the guide's Derived/Test/ToyasCard.lean, 'card_holds'). Laid BY PROGRAM, IN A SANDBOX (cutbox-door.mjs). By AI agents, Wed Nov 11 2026. No macro, syntax, notation, axiom, sorry.
-/
import Derived.Test.YtebipmdopdogkaaDoorRows
import GoSem.ClaimSeven
namespace Go.Proofs.YtebipmdopdogkaaDoor
namespace Rows

/-- THE TIED CARD OF 'smaltolaw12.OpSame'. -/
def opSameCard : Claim7 := { stood := { row := opSameRow, standIns := [], harness := (true, "a6f0a4989275e487b033ffe9bfec0c9c3b4a1c99858cc873829d7ff54cbe3c46"), looks := false }, kinds := [], alts := [], laidByText := true, laidKinds := [.widerDeep, .data], laidTests := true, laidLooks := .later }
def OpSameCardSaid : Prop := Claim7.holds Tryd.pinned (.plain (OpenSpec.ofChange opSameSpec)) opSameCard

/-- THE TIED CARD OF 'smaltolaw12.OpNames'. -/
def opNamesCard : Claim7 := { stood := { row := opNamesRow, standIns := [], harness := (true, "a6f0a4989275e487b033ffe9bfec0c9c3b4a1c99858cc873829d7ff54cbe3c46"), looks := false }, kinds := [], alts := [], laidByText := true, laidKinds := [.widerDeep, .data], laidTests := true, laidLooks := .later }
def OpNamesCardSaid : Prop := Claim7.holds Tryd.pinned (.plain (OpenSpec.ofChange opNamesSpec)) opNamesCard

/-- THE TIED CARD OF 'smaltolaw12.OpChains'. -/
def opChainsCard : Claim7 := { stood := { row := opChainsRow, standIns := [], harness := (true, "a6f0a4989275e487b033ffe9bfec0c9c3b4a1c99858cc873829d7ff54cbe3c46"), looks := false }, kinds := [], alts := [], laidByText := true, laidKinds := [.widerDeep, .data], laidTests := true, laidLooks := .later }
def OpChainsCardSaid : Prop := Claim7.holds Tryd.pinned (.plain (OpenSpec.ofChange opChainsSpec)) opChainsCard

/-- THE SECOND FORM's CARD OF 'smaltolaw12.OpSame'. -/
def opSameUptoCard : Claim7 := { stood := { row := opSameUptoRow, standIns := [], harness := (true, "a6f0a4989275e487b033ffe9bfec0c9c3b4a1c99858cc873829d7ff54cbe3c46"), looks := false }, kinds := [], alts := [], laidByText := true, laidKinds := [.widerDeep, .data], laidTests := true, laidLooks := .later }
def OpSameUptoCardSaid : Prop := Claim7.holds Tryd.pinned (.plain (OpenSpec.upto opSameSpec)) opSameUptoCard

/-- THE SECOND FORM's CARD OF 'smaltolaw12.OpNames'. -/
def opNamesUptoCard : Claim7 := { stood := { row := opNamesUptoRow, standIns := [], harness := (true, "a6f0a4989275e487b033ffe9bfec0c9c3b4a1c99858cc873829d7ff54cbe3c46"), looks := false }, kinds := [], alts := [], laidByText := true, laidKinds := [.widerDeep, .data], laidTests := true, laidLooks := .later }
def OpNamesUptoCardSaid : Prop := Claim7.holds Tryd.pinned (.plain (OpenSpec.upto opNamesSpec)) opNamesUptoCard

/-- THE SECOND FORM's CARD OF 'smaltolaw12.OpChains'. -/
def opChainsUptoCard : Claim7 := { stood := { row := opChainsUptoRow, standIns := [], harness := (true, "a6f0a4989275e487b033ffe9bfec0c9c3b4a1c99858cc873829d7ff54cbe3c46"), looks := false }, kinds := [], alts := [], laidByText := true, laidKinds := [.widerDeep, .data], laidTests := true, laidLooks := .later }
def OpChainsUptoCardSaid : Prop := Claim7.holds Tryd.pinned (.plain (OpenSpec.upto opChainsSpec)) opChainsUptoCard
end Rows
end Go.Proofs.YtebipmdopdogkaaDoor
