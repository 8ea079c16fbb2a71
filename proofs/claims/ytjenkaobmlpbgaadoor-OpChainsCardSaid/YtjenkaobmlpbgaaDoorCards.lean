/-
  DERIVED. GIVEN WITH THE SEED: THE CARDS: each row of YtjenkaobmlpbgaaDoorRows.lean that lists a variable, with what it lists TIED to the program's text (the seventh form; the later family's looks); each row that meets fmt, with fmt's text TOLD by the authors' own Lean function (tested against real Go, not proved from fmt's source: count such statements apart). THE CARD IS WHAT COUNTS. Prove the row's statement (the work); the ties are given (YtjenkaobmlpbgaaDoorTie.lean); close each card by the builder's one call (the guide's Derived/Test/ToyasCard.lean, 'card_holds'). Laid BY PROGRAM, IN A SANDBOX (cutbox-door.mjs). By AI agents, Wed Nov 11 2026. No macro, syntax, notation, axiom, sorry.
-/
import Derived.Test.YtjenkaobmlpbgaaDoorRows
import GoSem.ClaimSeven
namespace Go.Proofs.YtjenkaobmlpbgaaDoor
namespace Rows

/-- THE TIED CARD OF 'smaltolaw14.PlanNone'. -/
def planNoneCard : Claim7 := { stood := { row := planNoneRow, standIns := [], harness := (true, "b1f930606b3b078c0e046fc2375ae8e35becd575c94b01953e16f0eed44514c0"), looks := false }, kinds := [], alts := [], laidByText := true, laidKinds := [.widerDeep, .data], laidTests := true, laidLooks := .later }
def PlanNoneCardSaid : Prop := Claim7.holds Tryd.pinned (.plain (OpenSpec.ofChange planNoneSpec)) planNoneCard

/-- THE TIED CARD OF 'smaltolaw12.OpChains'. -/
def opChainsCard : Claim7 := { stood := { row := opChainsRow, standIns := [], harness := (true, "b1f930606b3b078c0e046fc2375ae8e35becd575c94b01953e16f0eed44514c0"), looks := false }, kinds := [], alts := [], laidByText := true, laidKinds := [.widerDeep, .data], laidTests := true, laidLooks := .later }
def OpChainsCardSaid : Prop := Claim7.holds Tryd.pinned (.plain (OpenSpec.ofChange opChainsSpec)) opChainsCard

/-- THE SECOND FORM's CARD OF 'smaltolaw14.PlanNone'. -/
def planNoneUptoCard : Claim7 := { stood := { row := planNoneUptoRow, standIns := [], harness := (true, "b1f930606b3b078c0e046fc2375ae8e35becd575c94b01953e16f0eed44514c0"), looks := false }, kinds := [], alts := [], laidByText := true, laidKinds := [.widerDeep, .data], laidTests := true, laidLooks := .later }
def PlanNoneUptoCardSaid : Prop := Claim7.holds Tryd.pinned (.plain (OpenSpec.upto planNoneSpec)) planNoneUptoCard

/-- THE SECOND FORM's CARD OF 'smaltolaw12.OpChains'. -/
def opChainsUptoCard : Claim7 := { stood := { row := opChainsUptoRow, standIns := [], harness := (true, "b1f930606b3b078c0e046fc2375ae8e35becd575c94b01953e16f0eed44514c0"), looks := false }, kinds := [], alts := [], laidByText := true, laidKinds := [.widerDeep, .data], laidTests := true, laidLooks := .later }
def OpChainsUptoCardSaid : Prop := Claim7.holds Tryd.pinned (.plain (OpenSpec.upto opChainsSpec)) opChainsUptoCard
end Rows
end Go.Proofs.YtjenkaobmlpbgaaDoor
