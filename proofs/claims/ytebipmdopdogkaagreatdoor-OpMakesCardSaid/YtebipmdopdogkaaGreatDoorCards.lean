/-
  DERIVED. GIVEN WITH THE SEED: THE CARDS: each row of YtebipmdopdogkaaGreatDoorRows.lean that lists a variable, with what it lists TIED to the program's text (the seventh form; the later family's looks); each row that meets fmt, with fmt's text TOLD by the authors' own Lean function (tested against real Go, not proved from fmt's source: count such statements apart). THE CARD IS WHAT COUNTS. Prove the row's statement (the work); the ties are given (YtebipmdopdogkaaGreatDoorTie.lean); close each card by the builder's one call (the guide's Derived/Test/ToyasCard.lean, 'card_holds'). Laid BY PROGRAM, IN A SANDBOX (cutbox-door.mjs). By AI agents, Wed Nov 11 2026. No macro, syntax, notation, axiom, sorry.
-/
import Derived.Test.YtebipmdopdogkaaGreatDoorRows
import GoSem.ClaimSeven
namespace Go.Proofs.YtebipmdopdogkaaGreatDoor
namespace Rows

/-- THE TIED CARD OF 'smaltolaw12.OpMakes'. -/
def opMakesCard : Claim7 := { stood := { row := opMakesRow, standIns := [], harness := (true, "dd5fcb2456d0b34dba29dfdd57c44fce9f6578cfbd0417f385c23bfb408ba5e7"), looks := false }, kinds := [], alts := [], laidByText := true, laidKinds := [.widerDeep, .data], laidTests := true, laidLooks := .later }
def OpMakesCardSaid : Prop := Claim7.holds Tryz.pinned (.plain (OpenSpec.ofChange opMakesSpec)) opMakesCard

/-- THE TIED CARD OF 'smaltolaw12.OpAll'. -/
def opAllCard : Claim7 := { stood := { row := opAllRow, standIns := [], harness := (true, "dd5fcb2456d0b34dba29dfdd57c44fce9f6578cfbd0417f385c23bfb408ba5e7"), looks := false }, kinds := [], alts := [], laidByText := true, laidKinds := [.widerDeep, .data], laidTests := true, laidLooks := .later }
def OpAllCardSaid : Prop := Claim7.holds Tryz.pinned (.plain (OpenSpec.ofChange opAllSpec)) opAllCard

/-- THE SECOND FORM's CARD OF 'smaltolaw12.OpMakes'. -/
def opMakesUptoCard : Claim7 := { stood := { row := opMakesUptoRow, standIns := [], harness := (true, "dd5fcb2456d0b34dba29dfdd57c44fce9f6578cfbd0417f385c23bfb408ba5e7"), looks := false }, kinds := [], alts := [], laidByText := true, laidKinds := [.widerDeep, .data], laidTests := true, laidLooks := .later }
def OpMakesUptoCardSaid : Prop := Claim7.holds Tryz.pinned (.plain (OpenSpec.upto opMakesSpec)) opMakesUptoCard

/-- THE SECOND FORM's CARD OF 'smaltolaw12.OpAll'. -/
def opAllUptoCard : Claim7 := { stood := { row := opAllUptoRow, standIns := [], harness := (true, "dd5fcb2456d0b34dba29dfdd57c44fce9f6578cfbd0417f385c23bfb408ba5e7"), looks := false }, kinds := [], alts := [], laidByText := true, laidKinds := [.widerDeep, .data], laidTests := true, laidLooks := .later }
def OpAllUptoCardSaid : Prop := Claim7.holds Tryz.pinned (.plain (OpenSpec.upto opAllSpec)) opAllUptoCard
end Rows
end Go.Proofs.YtebipmdopdogkaaGreatDoor
