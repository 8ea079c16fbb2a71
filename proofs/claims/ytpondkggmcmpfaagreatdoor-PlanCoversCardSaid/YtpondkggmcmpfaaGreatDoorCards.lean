/-
  DERIVED. GIVEN WITH THE SEED: THE CARDS: each row of YtpondkggmcmpfaaGreatDoorRows.lean that lists a variable, with what it lists TIED to the program's text (the seventh form; the later family's looks); each row that meets fmt, with fmt's text TOLD by the authors' own Lean function (tested against real Go, not proved from fmt's source: count such statements apart). THE CARD IS WHAT COUNTS. Prove the row's statement (the work); the ties are given (YtpondkggmcmpfaaGreatDoorTie.lean); close each card by the builder's one call (the guide's Derived/Test/ToyasCard.lean, 'card_holds'). Laid BY PROGRAM, IN A SANDBOX (cutbox-door.mjs). By AI agents, Wed Nov 11 2026. No macro, syntax, notation, axiom, sorry.
-/
import Derived.Test.YtpondkggmcmpfaaGreatDoorRows
import GoSem.ClaimSeven
namespace Go.Proofs.YtpondkggmcmpfaaGreatDoor
namespace Rows

/-- THE TIED CARD OF 'smaltolaw12.OpAll'. -/
def opAllCard : Claim7 := { stood := { row := opAllRow, standIns := [], harness := (true, "0218a7742358582213f6125ab700f1f36476d9e80d919f46203e6e60e53f4575"), looks := false }, kinds := [], alts := [], laidByText := true, laidKinds := [.widerDeep, .data], laidTests := true, laidLooks := .later }
def OpAllCardSaid : Prop := Claim7.holds Tryz.pinned (.plain (OpenSpec.ofChange opAllSpec)) opAllCard

/-- THE TIED CARD OF 'smaltolaw14.PlanAll'. -/
def planAllCard : Claim7 := { stood := { row := planAllRow, standIns := [], harness := (true, "0218a7742358582213f6125ab700f1f36476d9e80d919f46203e6e60e53f4575"), looks := false }, kinds := [], alts := [], laidByText := true, laidKinds := [.widerDeep, .data], laidTests := true, laidLooks := .later }
def PlanAllCardSaid : Prop := Claim7.holds Tryz.pinned (.plain (OpenSpec.ofChange planAllSpec)) planAllCard

/-- THE TIED CARD OF 'smaltolaw14.PlanTiles'. -/
def planTilesCard : Claim7 := { stood := { row := planTilesRow, standIns := [], harness := (true, "0218a7742358582213f6125ab700f1f36476d9e80d919f46203e6e60e53f4575"), looks := false }, kinds := [], alts := [], laidByText := true, laidKinds := [.widerDeep, .data], laidTests := true, laidLooks := .later }
def PlanTilesCardSaid : Prop := Claim7.holds Tryz.pinned (.plain (OpenSpec.ofChange planTilesSpec)) planTilesCard

/-- THE TIED CARD OF 'smaltolaw14.PlanReaches'. -/
def planReachesCard : Claim7 := { stood := { row := planReachesRow, standIns := [], harness := (true, "0218a7742358582213f6125ab700f1f36476d9e80d919f46203e6e60e53f4575"), looks := false }, kinds := [], alts := [], laidByText := true, laidKinds := [.widerDeep, .data], laidTests := true, laidLooks := .later }
def PlanReachesCardSaid : Prop := Claim7.holds Tryz.pinned (.plain (OpenSpec.ofChange planReachesSpec)) planReachesCard

/-- THE TIED CARD OF 'smaltolaw14.PlanCovers'. -/
def planCoversCard : Claim7 := { stood := { row := planCoversRow, standIns := [], harness := (true, "0218a7742358582213f6125ab700f1f36476d9e80d919f46203e6e60e53f4575"), looks := false }, kinds := [], alts := [], laidByText := true, laidKinds := [.widerDeep, .data], laidTests := true, laidLooks := .later }
def PlanCoversCardSaid : Prop := Claim7.holds Tryz.pinned (.plain (OpenSpec.ofChange planCoversSpec)) planCoversCard

/-- THE TIED CARD OF 'smaltolaw15.DirectApplies'. -/
def directAppliesCard : Claim7 := { stood := { row := directAppliesRow, standIns := [], harness := (true, "0218a7742358582213f6125ab700f1f36476d9e80d919f46203e6e60e53f4575"), looks := false }, kinds := [], alts := [], laidByText := true, laidKinds := [.widerDeep, .data], laidTests := true, laidLooks := .later }
def DirectAppliesCardSaid : Prop := Claim7.holds Tryz.pinned (.plain (OpenSpec.ofChange directAppliesSpec)) directAppliesCard

/-- THE TIED CARD OF 'smaltolaw15.DirectComposes'. -/
def directComposesCard : Claim7 := { stood := { row := directComposesRow, standIns := [], harness := (true, "0218a7742358582213f6125ab700f1f36476d9e80d919f46203e6e60e53f4575"), looks := false }, kinds := [], alts := [], laidByText := true, laidKinds := [.widerDeep, .data], laidTests := true, laidLooks := .later }
def DirectComposesCardSaid : Prop := Claim7.holds Tryz.pinned (.plain (OpenSpec.ofChange directComposesSpec)) directComposesCard

/-- THE TIED CARD OF 'smaltolaw15.DirectFlat'. -/
def directFlatCard : Claim7 := { stood := { row := directFlatRow, standIns := [], harness := (true, "0218a7742358582213f6125ab700f1f36476d9e80d919f46203e6e60e53f4575"), looks := false }, kinds := [], alts := [], laidByText := true, laidKinds := [.widerDeep, .data], laidTests := true, laidLooks := .later }
def DirectFlatCardSaid : Prop := Claim7.holds Tryz.pinned (.plain (OpenSpec.ofChange directFlatSpec)) directFlatCard

/-- THE TIED CARD OF 'smaltolaw15.DirectNever'. -/
def directNeverCard : Claim7 := { stood := { row := directNeverRow, standIns := [], harness := (true, "0218a7742358582213f6125ab700f1f36476d9e80d919f46203e6e60e53f4575"), looks := false }, kinds := [], alts := [], laidByText := true, laidKinds := [.widerDeep, .data], laidTests := true, laidLooks := .later }
def DirectNeverCardSaid : Prop := Claim7.holds Tryz.pinned (.plain (OpenSpec.ofChange directNeverSpec)) directNeverCard

/-- THE SECOND FORM's CARD OF 'smaltolaw12.OpAll'. -/
def opAllUptoCard : Claim7 := { stood := { row := opAllUptoRow, standIns := [], harness := (true, "0218a7742358582213f6125ab700f1f36476d9e80d919f46203e6e60e53f4575"), looks := false }, kinds := [], alts := [], laidByText := true, laidKinds := [.widerDeep, .data], laidTests := true, laidLooks := .later }
def OpAllUptoCardSaid : Prop := Claim7.holds Tryz.pinned (.plain (OpenSpec.upto opAllSpec)) opAllUptoCard

/-- THE SECOND FORM's CARD OF 'smaltolaw14.PlanAll'. -/
def planAllUptoCard : Claim7 := { stood := { row := planAllUptoRow, standIns := [], harness := (true, "0218a7742358582213f6125ab700f1f36476d9e80d919f46203e6e60e53f4575"), looks := false }, kinds := [], alts := [], laidByText := true, laidKinds := [.widerDeep, .data], laidTests := true, laidLooks := .later }
def PlanAllUptoCardSaid : Prop := Claim7.holds Tryz.pinned (.plain (OpenSpec.upto planAllSpec)) planAllUptoCard

/-- THE SECOND FORM's CARD OF 'smaltolaw14.PlanTiles'. -/
def planTilesUptoCard : Claim7 := { stood := { row := planTilesUptoRow, standIns := [], harness := (true, "0218a7742358582213f6125ab700f1f36476d9e80d919f46203e6e60e53f4575"), looks := false }, kinds := [], alts := [], laidByText := true, laidKinds := [.widerDeep, .data], laidTests := true, laidLooks := .later }
def PlanTilesUptoCardSaid : Prop := Claim7.holds Tryz.pinned (.plain (OpenSpec.upto planTilesSpec)) planTilesUptoCard

/-- THE SECOND FORM's CARD OF 'smaltolaw14.PlanReaches'. -/
def planReachesUptoCard : Claim7 := { stood := { row := planReachesUptoRow, standIns := [], harness := (true, "0218a7742358582213f6125ab700f1f36476d9e80d919f46203e6e60e53f4575"), looks := false }, kinds := [], alts := [], laidByText := true, laidKinds := [.widerDeep, .data], laidTests := true, laidLooks := .later }
def PlanReachesUptoCardSaid : Prop := Claim7.holds Tryz.pinned (.plain (OpenSpec.upto planReachesSpec)) planReachesUptoCard

/-- THE SECOND FORM's CARD OF 'smaltolaw14.PlanCovers'. -/
def planCoversUptoCard : Claim7 := { stood := { row := planCoversUptoRow, standIns := [], harness := (true, "0218a7742358582213f6125ab700f1f36476d9e80d919f46203e6e60e53f4575"), looks := false }, kinds := [], alts := [], laidByText := true, laidKinds := [.widerDeep, .data], laidTests := true, laidLooks := .later }
def PlanCoversUptoCardSaid : Prop := Claim7.holds Tryz.pinned (.plain (OpenSpec.upto planCoversSpec)) planCoversUptoCard

/-- THE SECOND FORM's CARD OF 'smaltolaw15.DirectApplies'. -/
def directAppliesUptoCard : Claim7 := { stood := { row := directAppliesUptoRow, standIns := [], harness := (true, "0218a7742358582213f6125ab700f1f36476d9e80d919f46203e6e60e53f4575"), looks := false }, kinds := [], alts := [], laidByText := true, laidKinds := [.widerDeep, .data], laidTests := true, laidLooks := .later }
def DirectAppliesUptoCardSaid : Prop := Claim7.holds Tryz.pinned (.plain (OpenSpec.upto directAppliesSpec)) directAppliesUptoCard

/-- THE SECOND FORM's CARD OF 'smaltolaw15.DirectComposes'. -/
def directComposesUptoCard : Claim7 := { stood := { row := directComposesUptoRow, standIns := [], harness := (true, "0218a7742358582213f6125ab700f1f36476d9e80d919f46203e6e60e53f4575"), looks := false }, kinds := [], alts := [], laidByText := true, laidKinds := [.widerDeep, .data], laidTests := true, laidLooks := .later }
def DirectComposesUptoCardSaid : Prop := Claim7.holds Tryz.pinned (.plain (OpenSpec.upto directComposesSpec)) directComposesUptoCard

/-- THE SECOND FORM's CARD OF 'smaltolaw15.DirectFlat'. -/
def directFlatUptoCard : Claim7 := { stood := { row := directFlatUptoRow, standIns := [], harness := (true, "0218a7742358582213f6125ab700f1f36476d9e80d919f46203e6e60e53f4575"), looks := false }, kinds := [], alts := [], laidByText := true, laidKinds := [.widerDeep, .data], laidTests := true, laidLooks := .later }
def DirectFlatUptoCardSaid : Prop := Claim7.holds Tryz.pinned (.plain (OpenSpec.upto directFlatSpec)) directFlatUptoCard

/-- THE SECOND FORM's CARD OF 'smaltolaw15.DirectNever'. -/
def directNeverUptoCard : Claim7 := { stood := { row := directNeverUptoRow, standIns := [], harness := (true, "0218a7742358582213f6125ab700f1f36476d9e80d919f46203e6e60e53f4575"), looks := false }, kinds := [], alts := [], laidByText := true, laidKinds := [.widerDeep, .data], laidTests := true, laidLooks := .later }
def DirectNeverUptoCardSaid : Prop := Claim7.holds Tryz.pinned (.plain (OpenSpec.upto directNeverSpec)) directNeverUptoCard
end Rows
end Go.Proofs.YtpondkggmcmpfaaGreatDoor
