/-
  DERIVED. GIVEN WITH THE SEED: THE CARDS: each row of YthaajkpiknbdbaaDoorRows.lean that lists a variable, with what it lists TIED to the program's text (the seventh form; the later family's looks); each row that meets fmt, with fmt's text TOLD by the authors' own Lean function (tested against real Go, not proved from fmt's source: count such statements apart). THE CARD IS WHAT COUNTS. Prove the row's statement (the work); the ties are given (YthaajkpiknbdbaaDoorTie.lean); close each card by the builder's one call (the guide's Derived/Test/ToyasCard.lean, 'card_holds'). Laid BY PROGRAM, IN A SANDBOX (cutbox-door.mjs). By AI agents, Wed Nov 11 2026. No macro, syntax, notation, axiom, sorry.
-/
import Derived.Test.YthaajkpiknbdbaaDoorRows
import GoSem.ClaimSeven
namespace Go.Proofs.YthaajkpiknbdbaaDoor
namespace Rows

/-- THE TIED CARD OF 'smaltolaw08.TableMoves'. -/
def tableMovesCard : Claim7 := { stood := { row := tableMovesRow, standIns := [], harness := (true, "31a94ad5d5320144cb817fe29109e9275821823b2ed1df774c10412f61153e1b"), looks := false }, kinds := [], alts := [], laidByText := true, laidKinds := [.data], laidTests := true, laidLooks := .later }
def TableMovesCardSaid : Prop := Claim7.holds Tryd.pinned (.plain (OpenSpec.ofChange tableMovesSpec)) tableMovesCard

/-- THE TIED CARD OF 'smaltolaw08.TableResizes'. -/
def tableResizesCard : Claim7 := { stood := { row := tableResizesRow, standIns := [], harness := (true, "31a94ad5d5320144cb817fe29109e9275821823b2ed1df774c10412f61153e1b"), looks := false }, kinds := [], alts := [], laidByText := true, laidKinds := [.data], laidTests := true, laidLooks := .later }
def TableResizesCardSaid : Prop := Claim7.holds Tryd.pinned (.plain (OpenSpec.ofChange tableResizesSpec)) tableResizesCard

/-- THE TIED CARD OF 'smaltolaw08.TableSums'. -/
def tableSumsCard : Claim7 := { stood := { row := tableSumsRow, standIns := [], harness := (true, "31a94ad5d5320144cb817fe29109e9275821823b2ed1df774c10412f61153e1b"), looks := false }, kinds := [], alts := [], laidByText := true, laidKinds := [.data], laidTests := true, laidLooks := .later }
def TableSumsCardSaid : Prop := Claim7.holds Tryd.pinned (.plain (OpenSpec.ofChange tableSumsSpec)) tableSumsCard

/-- THE TIED CARD OF 'smaltolaw08.TableFilters'. -/
def tableFiltersCard : Claim7 := { stood := { row := tableFiltersRow, standIns := [], harness := (true, "31a94ad5d5320144cb817fe29109e9275821823b2ed1df774c10412f61153e1b"), looks := false }, kinds := [], alts := [], laidByText := true, laidKinds := [.data], laidTests := true, laidLooks := .later }
def TableFiltersCardSaid : Prop := Claim7.holds Tryd.pinned (.plain (OpenSpec.ofChange tableFiltersSpec)) tableFiltersCard

/-- THE TIED CARD OF 'smaltolaw08.TableSame'. -/
def tableSameCard : Claim7 := { stood := { row := tableSameRow, standIns := [], harness := (true, "31a94ad5d5320144cb817fe29109e9275821823b2ed1df774c10412f61153e1b"), looks := false }, kinds := [], alts := [], laidByText := true, laidKinds := [.data], laidTests := true, laidLooks := .later }
def TableSameCardSaid : Prop := Claim7.holds Tryd.pinned (.plain (OpenSpec.ofChange tableSameSpec)) tableSameCard

/-- THE SECOND FORM's CARD OF 'smaltolaw08.TableMoves'. -/
def tableMovesUptoCard : Claim7 := { stood := { row := tableMovesUptoRow, standIns := [], harness := (true, "31a94ad5d5320144cb817fe29109e9275821823b2ed1df774c10412f61153e1b"), looks := false }, kinds := [], alts := [], laidByText := true, laidKinds := [.data], laidTests := true, laidLooks := .later }
def TableMovesUptoCardSaid : Prop := Claim7.holds Tryd.pinned (.plain (OpenSpec.upto tableMovesSpec)) tableMovesUptoCard

/-- THE SECOND FORM's CARD OF 'smaltolaw08.TableResizes'. -/
def tableResizesUptoCard : Claim7 := { stood := { row := tableResizesUptoRow, standIns := [], harness := (true, "31a94ad5d5320144cb817fe29109e9275821823b2ed1df774c10412f61153e1b"), looks := false }, kinds := [], alts := [], laidByText := true, laidKinds := [.data], laidTests := true, laidLooks := .later }
def TableResizesUptoCardSaid : Prop := Claim7.holds Tryd.pinned (.plain (OpenSpec.upto tableResizesSpec)) tableResizesUptoCard

/-- THE SECOND FORM's CARD OF 'smaltolaw08.TableSums'. -/
def tableSumsUptoCard : Claim7 := { stood := { row := tableSumsUptoRow, standIns := [], harness := (true, "31a94ad5d5320144cb817fe29109e9275821823b2ed1df774c10412f61153e1b"), looks := false }, kinds := [], alts := [], laidByText := true, laidKinds := [.data], laidTests := true, laidLooks := .later }
def TableSumsUptoCardSaid : Prop := Claim7.holds Tryd.pinned (.plain (OpenSpec.upto tableSumsSpec)) tableSumsUptoCard

/-- THE SECOND FORM's CARD OF 'smaltolaw08.TableFilters'. -/
def tableFiltersUptoCard : Claim7 := { stood := { row := tableFiltersUptoRow, standIns := [], harness := (true, "31a94ad5d5320144cb817fe29109e9275821823b2ed1df774c10412f61153e1b"), looks := false }, kinds := [], alts := [], laidByText := true, laidKinds := [.data], laidTests := true, laidLooks := .later }
def TableFiltersUptoCardSaid : Prop := Claim7.holds Tryd.pinned (.plain (OpenSpec.upto tableFiltersSpec)) tableFiltersUptoCard

/-- THE SECOND FORM's CARD OF 'smaltolaw08.TableSame'. -/
def tableSameUptoCard : Claim7 := { stood := { row := tableSameUptoRow, standIns := [], harness := (true, "31a94ad5d5320144cb817fe29109e9275821823b2ed1df774c10412f61153e1b"), looks := false }, kinds := [], alts := [], laidByText := true, laidKinds := [.data], laidTests := true, laidLooks := .later }
def TableSameUptoCardSaid : Prop := Claim7.holds Tryd.pinned (.plain (OpenSpec.upto tableSameSpec)) tableSameUptoCard
end Rows
end Go.Proofs.YthaajkpiknbdbaaDoor
