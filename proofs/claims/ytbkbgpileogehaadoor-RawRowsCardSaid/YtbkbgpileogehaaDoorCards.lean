/-
  DERIVED. GIVEN WITH THE SEED: THE CARDS: each row of YtbkbgpileogehaaDoorRows.lean that lists a variable, with what it lists TIED to the program's text (the seventh form; the later family's looks); each row that meets fmt, with fmt's text TOLD by the authors' own Lean function (tested against real Go, not proved from fmt's source: count such statements apart). THE CARD IS WHAT COUNTS. Prove the row's statement (the work); the ties are given (YtbkbgpileogehaaDoorTie.lean); close each card by the builder's one call (the guide's Derived/Test/ToyasCard.lean, 'card_holds'). Laid BY PROGRAM, IN A SANDBOX (cutbox-door.mjs). By AI agents, Wed Nov 11 2026. No macro, syntax, notation, axiom, sorry.
-/
import Derived.Test.YtbkbgpileogehaaDoorRows
import GoSem.ClaimSeven
namespace Go.Proofs.YtbkbgpileogehaaDoor
namespace Rows

/-- THE TIED CARD OF 'smaltolaw05.RawBox'. -/
def rawBoxCard : Claim7 := { stood := { row := rawBoxRow, standIns := [], harness := (true, "b4b5ee7af4fa8f2054c17d23ac5b9c996d62727b3c1aa192c29107bcd7cd6699"), looks := false }, kinds := [], alts := [], laidByText := true, laidKinds := [.data], laidTests := true, laidLooks := .later }
def RawBoxCardSaid : Prop := Claim7.holds Tryd.pinned (.plain (OpenSpec.ofChange rawBoxSpec)) rawBoxCard

/-- THE TIED CARD OF 'smaltolaw05.RawMirror'. -/
def rawMirrorCard : Claim7 := { stood := { row := rawMirrorRow, standIns := [], harness := (true, "b4b5ee7af4fa8f2054c17d23ac5b9c996d62727b3c1aa192c29107bcd7cd6699"), looks := false }, kinds := [], alts := [], laidByText := true, laidKinds := [.data], laidTests := true, laidLooks := .later }
def RawMirrorCardSaid : Prop := Claim7.holds Tryd.pinned (.plain (OpenSpec.ofChange rawMirrorSpec)) rawMirrorCard

/-- THE TIED CARD OF 'smaltolaw05.RawKeys'. -/
def rawKeysCard : Claim7 := { stood := { row := rawKeysRow, standIns := [], harness := (true, "b4b5ee7af4fa8f2054c17d23ac5b9c996d62727b3c1aa192c29107bcd7cd6699"), looks := false }, kinds := [], alts := [], laidByText := true, laidKinds := [.data], laidTests := true, laidLooks := .later }
def RawKeysCardSaid : Prop := Claim7.holds Tryd.pinned (.plain (OpenSpec.ofChange rawKeysSpec)) rawKeysCard

/-- THE TIED CARD OF 'smaltolaw05.RawNames'. -/
def rawNamesCard : Claim7 := { stood := { row := rawNamesRow, standIns := [], harness := (true, "b4b5ee7af4fa8f2054c17d23ac5b9c996d62727b3c1aa192c29107bcd7cd6699"), looks := false }, kinds := [], alts := [], laidByText := true, laidKinds := [.data], laidTests := true, laidLooks := .later }
def RawNamesCardSaid : Prop := Claim7.holds Tryd.pinned (.plain (OpenSpec.ofChange rawNamesSpec)) rawNamesCard

/-- THE TIED CARD OF 'smaltolaw05.RawRows'. -/
def rawRowsCard : Claim7 := { stood := { row := rawRowsRow, standIns := [], harness := (true, "b4b5ee7af4fa8f2054c17d23ac5b9c996d62727b3c1aa192c29107bcd7cd6699"), looks := false }, kinds := [], alts := [], laidByText := true, laidKinds := [.data], laidTests := true, laidLooks := .later }
def RawRowsCardSaid : Prop := Claim7.holds Tryd.pinned (.plain (OpenSpec.ofChange rawRowsSpec)) rawRowsCard

/-- THE TIED CARD OF 'smaltolaw04.SincNear'. -/
def sincNearCard : Claim7 := { stood := { row := sincNearRow, standIns := [], harness := (true, "b4b5ee7af4fa8f2054c17d23ac5b9c996d62727b3c1aa192c29107bcd7cd6699"), looks := false }, kinds := [], alts := [], laidByText := true, laidKinds := [.data, .data, .data], laidTests := true, laidLooks := .later }
def SincNearCardSaid : Prop := Claim7.holds Tryd.pinned (.plain (OpenSpec.ofChange sincNearSpec)) sincNearCard

/-- THE TIED CARD OF 'smaltolaw04.SincLanczos'. -/
def sincLanczosCard : Claim7 := { stood := { row := sincLanczosRow, standIns := [], harness := (true, "b4b5ee7af4fa8f2054c17d23ac5b9c996d62727b3c1aa192c29107bcd7cd6699"), looks := false }, kinds := [], alts := [], laidByText := true, laidKinds := [.data, .data, .data], laidTests := true, laidLooks := .later }
def SincLanczosCardSaid : Prop := Claim7.holds Tryd.pinned (.plain (OpenSpec.ofChange sincLanczosSpec)) sincLanczosCard

/-- THE SECOND FORM's CARD OF 'smaltolaw05.RawBox'. -/
def rawBoxUptoCard : Claim7 := { stood := { row := rawBoxUptoRow, standIns := [], harness := (true, "b4b5ee7af4fa8f2054c17d23ac5b9c996d62727b3c1aa192c29107bcd7cd6699"), looks := false }, kinds := [], alts := [], laidByText := true, laidKinds := [.data], laidTests := true, laidLooks := .later }
def RawBoxUptoCardSaid : Prop := Claim7.holds Tryd.pinned (.plain (OpenSpec.upto rawBoxSpec)) rawBoxUptoCard

/-- THE SECOND FORM's CARD OF 'smaltolaw05.RawMirror'. -/
def rawMirrorUptoCard : Claim7 := { stood := { row := rawMirrorUptoRow, standIns := [], harness := (true, "b4b5ee7af4fa8f2054c17d23ac5b9c996d62727b3c1aa192c29107bcd7cd6699"), looks := false }, kinds := [], alts := [], laidByText := true, laidKinds := [.data], laidTests := true, laidLooks := .later }
def RawMirrorUptoCardSaid : Prop := Claim7.holds Tryd.pinned (.plain (OpenSpec.upto rawMirrorSpec)) rawMirrorUptoCard

/-- THE SECOND FORM's CARD OF 'smaltolaw05.RawKeys'. -/
def rawKeysUptoCard : Claim7 := { stood := { row := rawKeysUptoRow, standIns := [], harness := (true, "b4b5ee7af4fa8f2054c17d23ac5b9c996d62727b3c1aa192c29107bcd7cd6699"), looks := false }, kinds := [], alts := [], laidByText := true, laidKinds := [.data], laidTests := true, laidLooks := .later }
def RawKeysUptoCardSaid : Prop := Claim7.holds Tryd.pinned (.plain (OpenSpec.upto rawKeysSpec)) rawKeysUptoCard

/-- THE SECOND FORM's CARD OF 'smaltolaw05.RawNames'. -/
def rawNamesUptoCard : Claim7 := { stood := { row := rawNamesUptoRow, standIns := [], harness := (true, "b4b5ee7af4fa8f2054c17d23ac5b9c996d62727b3c1aa192c29107bcd7cd6699"), looks := false }, kinds := [], alts := [], laidByText := true, laidKinds := [.data], laidTests := true, laidLooks := .later }
def RawNamesUptoCardSaid : Prop := Claim7.holds Tryd.pinned (.plain (OpenSpec.upto rawNamesSpec)) rawNamesUptoCard

/-- THE SECOND FORM's CARD OF 'smaltolaw05.RawRows'. -/
def rawRowsUptoCard : Claim7 := { stood := { row := rawRowsUptoRow, standIns := [], harness := (true, "b4b5ee7af4fa8f2054c17d23ac5b9c996d62727b3c1aa192c29107bcd7cd6699"), looks := false }, kinds := [], alts := [], laidByText := true, laidKinds := [.data], laidTests := true, laidLooks := .later }
def RawRowsUptoCardSaid : Prop := Claim7.holds Tryd.pinned (.plain (OpenSpec.upto rawRowsSpec)) rawRowsUptoCard

/-- THE SECOND FORM's CARD OF 'smaltolaw04.SincNear'. -/
def sincNearUptoCard : Claim7 := { stood := { row := sincNearUptoRow, standIns := [], harness := (true, "b4b5ee7af4fa8f2054c17d23ac5b9c996d62727b3c1aa192c29107bcd7cd6699"), looks := false }, kinds := [], alts := [], laidByText := true, laidKinds := [.data, .data, .data], laidTests := true, laidLooks := .later }
def SincNearUptoCardSaid : Prop := Claim7.holds Tryd.pinned (.plain (OpenSpec.upto sincNearSpec)) sincNearUptoCard

/-- THE SECOND FORM's CARD OF 'smaltolaw04.SincLanczos'. -/
def sincLanczosUptoCard : Claim7 := { stood := { row := sincLanczosUptoRow, standIns := [], harness := (true, "b4b5ee7af4fa8f2054c17d23ac5b9c996d62727b3c1aa192c29107bcd7cd6699"), looks := false }, kinds := [], alts := [], laidByText := true, laidKinds := [.data, .data, .data], laidTests := true, laidLooks := .later }
def SincLanczosUptoCardSaid : Prop := Claim7.holds Tryd.pinned (.plain (OpenSpec.upto sincLanczosSpec)) sincLanczosUptoCard
end Rows
end Go.Proofs.YtbkbgpileogehaaDoor
