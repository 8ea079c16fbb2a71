/-
  DERIVED. GIVEN WITH THE SEED: THE CARDS: each row of YtcfpfaakbomcnaaDoorRows.lean that lists a variable, with what it lists TIED to the program's text (the seventh form; the later family's looks); each row that meets fmt, with fmt's text TOLD by the authors' own Lean function (tested against real Go, not proved from fmt's source: count such statements apart). THE CARD IS WHAT COUNTS. Prove the row's statement (the work); the ties are given (YtcfpfaakbomcnaaDoorTie.lean); close each card by the builder's one call (the guide's Derived/Test/ToyasCard.lean, 'card_holds'). Laid BY PROGRAM, IN A SANDBOX (cutbox-door.mjs). By AI agents, Wed Nov 11 2026. No macro, syntax, notation, axiom, sorry.
-/
import Derived.Test.YtcfpfaakbomcnaaDoorRows
import GoSem.ClaimSeven
namespace Go.Proofs.YtcfpfaakbomcnaaDoor
namespace Rows

/-- THE TIED CARD OF 'smaltolaw04.SincNear'. -/
def sincNearCard : Claim7 := { stood := { row := sincNearRow, standIns := [], harness := (true, "ac74ad23bbb7e8a73949e3145251d93a2e39266f676567800f7feca8495283dc"), looks := false }, kinds := [], alts := [], laidByText := true, laidKinds := [.data, .data, .data], laidTests := true, laidLooks := .later }
def SincNearCardSaid : Prop := Claim7.holds Tryd.pinned (.plain (OpenSpec.ofChange sincNearSpec)) sincNearCard

/-- THE TIED CARD OF 'smaltolaw04.SincLanczos'. -/
def sincLanczosCard : Claim7 := { stood := { row := sincLanczosRow, standIns := [], harness := (true, "ac74ad23bbb7e8a73949e3145251d93a2e39266f676567800f7feca8495283dc"), looks := false }, kinds := [], alts := [], laidByText := true, laidKinds := [.data, .data, .data], laidTests := true, laidLooks := .later }
def SincLanczosCardSaid : Prop := Claim7.holds Tryd.pinned (.plain (OpenSpec.ofChange sincLanczosSpec)) sincLanczosCard

/-- THE SECOND FORM's CARD OF 'smaltolaw04.SincNear'. -/
def sincNearUptoCard : Claim7 := { stood := { row := sincNearUptoRow, standIns := [], harness := (true, "ac74ad23bbb7e8a73949e3145251d93a2e39266f676567800f7feca8495283dc"), looks := false }, kinds := [], alts := [], laidByText := true, laidKinds := [.data, .data, .data], laidTests := true, laidLooks := .later }
def SincNearUptoCardSaid : Prop := Claim7.holds Tryd.pinned (.plain (OpenSpec.upto sincNearSpec)) sincNearUptoCard

/-- THE SECOND FORM's CARD OF 'smaltolaw04.SincLanczos'. -/
def sincLanczosUptoCard : Claim7 := { stood := { row := sincLanczosUptoRow, standIns := [], harness := (true, "ac74ad23bbb7e8a73949e3145251d93a2e39266f676567800f7feca8495283dc"), looks := false }, kinds := [], alts := [], laidByText := true, laidKinds := [.data, .data, .data], laidTests := true, laidLooks := .later }
def SincLanczosUptoCardSaid : Prop := Claim7.holds Tryd.pinned (.plain (OpenSpec.upto sincLanczosSpec)) sincLanczosUptoCard
end Rows
end Go.Proofs.YtcfpfaakbomcnaaDoor
