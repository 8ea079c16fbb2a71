/-
  DERIVED. GIVEN WITH THE SEED: THE CARDS: each row of YtkdmebekabmkkaaDoorRows.lean that lists a variable, with what it lists TIED to the program's text (the seventh form; the later family's looks); each row that meets fmt, with fmt's text TOLD by the authors' own Lean function (tested against real Go, not proved from fmt's source: count such statements apart). THE CARD IS WHAT COUNTS. Prove the row's statement (the work); the ties are given (YtkdmebekabmkkaaDoorTie.lean); close each card by the builder's one call (the guide's Derived/Test/ToyasCard.lean, 'card_holds'). Laid BY PROGRAM, IN A SANDBOX (cutbox-door.mjs). By AI agents, Wed Nov 11 2026. No macro, syntax, notation, axiom, sorry.
-/
import Derived.Test.YtkdmebekabmkkaaDoorRows
import GoSem.ClaimSeven
namespace Go.Proofs.YtkdmebekabmkkaaDoor
namespace Rows

/-- THE TIED CARD OF 'smaltolaw12.OpChains'. -/
def opChainsCard : Claim7 := { stood := { row := opChainsRow, standIns := [], harness := (true, "dc80fa0a0e6ec0547168d7f81d2561e349e641b553d497dc9055461495fcfe92"), looks := false }, kinds := [], alts := [], laidByText := true, laidKinds := [.widerDeep, .data], laidTests := true, laidLooks := .later }
def OpChainsCardSaid : Prop := Claim7.holds Tryd.pinned (.plain (OpenSpec.ofChange opChainsSpec)) opChainsCard

/-- THE TIED CARD OF 'smaltolaw14.PlanNone'. -/
def planNoneCard : Claim7 := { stood := { row := planNoneRow, standIns := [], harness := (true, "dc80fa0a0e6ec0547168d7f81d2561e349e641b553d497dc9055461495fcfe92"), looks := false }, kinds := [], alts := [], laidByText := true, laidKinds := [.widerDeep, .data], laidTests := true, laidLooks := .later }
def PlanNoneCardSaid : Prop := Claim7.holds Tryd.pinned (.plain (OpenSpec.ofChange planNoneSpec)) planNoneCard

/-- THE SECOND FORM's CARD OF 'smaltolaw12.OpChains'. -/
def opChainsUptoCard : Claim7 := { stood := { row := opChainsUptoRow, standIns := [], harness := (true, "dc80fa0a0e6ec0547168d7f81d2561e349e641b553d497dc9055461495fcfe92"), looks := false }, kinds := [], alts := [], laidByText := true, laidKinds := [.widerDeep, .data], laidTests := true, laidLooks := .later }
def OpChainsUptoCardSaid : Prop := Claim7.holds Tryd.pinned (.plain (OpenSpec.upto opChainsSpec)) opChainsUptoCard

/-- THE SECOND FORM's CARD OF 'smaltolaw14.PlanNone'. -/
def planNoneUptoCard : Claim7 := { stood := { row := planNoneUptoRow, standIns := [], harness := (true, "dc80fa0a0e6ec0547168d7f81d2561e349e641b553d497dc9055461495fcfe92"), looks := false }, kinds := [], alts := [], laidByText := true, laidKinds := [.widerDeep, .data], laidTests := true, laidLooks := .later }
def PlanNoneUptoCardSaid : Prop := Claim7.holds Tryd.pinned (.plain (OpenSpec.upto planNoneSpec)) planNoneUptoCard
end Rows
end Go.Proofs.YtkdmebekabmkkaaDoor
