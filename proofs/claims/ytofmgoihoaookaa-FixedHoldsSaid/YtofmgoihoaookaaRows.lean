/-
  No cell of these rows narrows 'for every input' (looked for: loops, veiled, ifaces, maps, wideKeys, modest, calm, conditions, laid).
  DERIVED. THE GIVEN ROWS OF THIS SEAT. 9 by the template 'for every input the law returns true; each argument reads behind the call as it read before'; 0 by the template 'total and deterministic' (their statements: YtofmgoihoaookaaTotals.lean).
  GIVEN WITH THE SEED: the statements are not yours to turn. If you find one false, say at which input.
  Laid BY PROGRAM, IN A SANDBOX (cutbox-rows.mjs): the forced cells as the released guide's own fill.sh prints them over the translation ef853321df0e5665… (all of the seat's roots in one cut). By AI agents, Wed Nov 11 2026. No macro, syntax, notation, axiom, sorry.
-/
import Derived.Test.YtofmgoihoaookaaChecked
import GoSem.Claim
import GoSem.ClaimJoined
import GoSem.ClaimMapViews
import Derived.JoinedTies
import Derived.KernelRfl
namespace Go.Proofs.Ytofmgoihoaookaa
/- THE CELL 'sum', in the pinned program and in every row, IS THE sha256 OF THE DUMP (.gsa) THAT YtofmgoihoaookaaProg.lean LOADS. Nothing in Lean hashes anything: it is a label: what it is worth is what the hold of that sum in a sandbox is worth. -/
noncomputable def Try.pinned : Pinned := { name := "ytofmgoihoaookaa", sum := "ef853321df0e566534dd05ffb7855c75fad731e3d4de11317ab0c663ae5b4fba", checked := Try.checked }
namespace Rows
def none {H : Type} : Left H := { results := [], args := [] }

/-- 'smaltolaw07.BorderWalks': WHATEVER THE INPUT: true; the input reads as it did. -/
def borderWalksSpec : ChangeSpec := { name := "borderWalks", fn := fun _ => fun
  | [d1, d2, d3] => { results := [.lit (.bool true)], args := [d1, d2, d3] }
  | _ => none }
def borderWalksRow : OpenClaim := { program := "ytofmgoihoaookaa", sum := "ef853321df0e566534dd05ffb7855c75fad731e3d4de11317ab0c663ae5b4fba", func := "smalto/smaltolaw07.BorderWalks", spec := "borderWalks", apart := false }
def BorderWalksSaid : Prop := borderWalksRow.holds Try.pinned (OpenSpec.ofChange borderWalksSpec)

/-- ITS FALSE NEIGHBOUR: 'it returns false'. Refute it at one input. -/
def borderWalksWrong : ChangeSpec := { name := "borderWalks", fn := fun _ => fun
  | [d1, d2, d3] => { results := [.lit (.bool false)], args := [d1, d2, d3] }
  | _ => none }
def BorderWalksWrongFalsely : Prop := borderWalksRow.holds Try.pinned (OpenSpec.ofChange borderWalksWrong)

/-- 'smaltolaw07.BorderAt': WHATEVER THE INPUT: true; the input reads as it did. -/
def borderAtSpec : ChangeSpec := { name := "borderAt", fn := fun _ => fun
  | [d1, d2, d3] => { results := [.lit (.bool true)], args := [d1, d2, d3] }
  | _ => none }
def borderAtRow : OpenClaim := { program := "ytofmgoihoaookaa", sum := "ef853321df0e566534dd05ffb7855c75fad731e3d4de11317ab0c663ae5b4fba", func := "smalto/smaltolaw07.BorderAt", spec := "borderAt", apart := false }
def BorderAtSaid : Prop := borderAtRow.holds Try.pinned (OpenSpec.ofChange borderAtSpec)

/-- ITS FALSE NEIGHBOUR: 'it returns false'. Refute it at one input. -/
def borderAtWrong : ChangeSpec := { name := "borderAt", fn := fun _ => fun
  | [d1, d2, d3] => { results := [.lit (.bool false)], args := [d1, d2, d3] }
  | _ => none }
def BorderAtWrongFalsely : Prop := borderAtRow.holds Try.pinned (OpenSpec.ofChange borderAtWrong)

/-- 'smaltolaw07.BorderIn': WHATEVER THE INPUT: true; the input reads as it did. -/
def borderInSpec : ChangeSpec := { name := "borderIn", fn := fun _ => fun
  | [d1, d2, d3] => { results := [.lit (.bool true)], args := [d1, d2, d3] }
  | _ => none }
def borderInRow : OpenClaim := { program := "ytofmgoihoaookaa", sum := "ef853321df0e566534dd05ffb7855c75fad731e3d4de11317ab0c663ae5b4fba", func := "smalto/smaltolaw07.BorderIn", spec := "borderIn", apart := false }
def BorderInSaid : Prop := borderInRow.holds Try.pinned (OpenSpec.ofChange borderInSpec)

/-- ITS FALSE NEIGHBOUR: 'it returns false'. Refute it at one input. -/
def borderInWrong : ChangeSpec := { name := "borderIn", fn := fun _ => fun
  | [d1, d2, d3] => { results := [.lit (.bool false)], args := [d1, d2, d3] }
  | _ => none }
def BorderInWrongFalsely : Prop := borderInRow.holds Try.pinned (OpenSpec.ofChange borderInWrong)

/-- 'smaltolaw07.BorderSpans': WHATEVER THE INPUT: true; the input reads as it did. -/
def borderSpansSpec : ChangeSpec := { name := "borderSpans", fn := fun _ => fun
  | [d1, d2, d3, d4] => { results := [.lit (.bool true)], args := [d1, d2, d3, d4] }
  | _ => none }
def borderSpansRow : OpenClaim := { program := "ytofmgoihoaookaa", sum := "ef853321df0e566534dd05ffb7855c75fad731e3d4de11317ab0c663ae5b4fba", func := "smalto/smaltolaw07.BorderSpans", spec := "borderSpans", apart := false }
def BorderSpansSaid : Prop := borderSpansRow.holds Try.pinned (OpenSpec.ofChange borderSpansSpec)

/-- ITS FALSE NEIGHBOUR: 'it returns false'. Refute it at one input. -/
def borderSpansWrong : ChangeSpec := { name := "borderSpans", fn := fun _ => fun
  | [d1, d2, d3, d4] => { results := [.lit (.bool false)], args := [d1, d2, d3, d4] }
  | _ => none }
def BorderSpansWrongFalsely : Prop := borderSpansRow.holds Try.pinned (OpenSpec.ofChange borderSpansWrong)

/-- 'smaltolaw01.FixedDivides': WHATEVER THE INPUT: true; the input reads as it did. -/
def fixedDividesSpec : ChangeSpec := { name := "fixedDivides", fn := fun _ => fun
  | [d1, d2] => { results := [.lit (.bool true)], args := [d1, d2] }
  | _ => none }
def fixedDividesRow : OpenClaim := { program := "ytofmgoihoaookaa", sum := "ef853321df0e566534dd05ffb7855c75fad731e3d4de11317ab0c663ae5b4fba", func := "smalto/smaltolaw01.FixedDivides", spec := "fixedDivides", apart := false }
def FixedDividesSaid : Prop := fixedDividesRow.holds Try.pinned (OpenSpec.ofChange fixedDividesSpec)

/-- ITS FALSE NEIGHBOUR: 'it returns false'. Refute it at one input. -/
def fixedDividesWrong : ChangeSpec := { name := "fixedDivides", fn := fun _ => fun
  | [d1, d2] => { results := [.lit (.bool false)], args := [d1, d2] }
  | _ => none }
def FixedDividesWrongFalsely : Prop := fixedDividesRow.holds Try.pinned (OpenSpec.ofChange fixedDividesWrong)

/-- 'smaltolaw01.FixedMods': WHATEVER THE INPUT: true; the input reads as it did. -/
def fixedModsSpec : ChangeSpec := { name := "fixedMods", fn := fun _ => fun
  | [d1, d2] => { results := [.lit (.bool true)], args := [d1, d2] }
  | _ => none }
def fixedModsRow : OpenClaim := { program := "ytofmgoihoaookaa", sum := "ef853321df0e566534dd05ffb7855c75fad731e3d4de11317ab0c663ae5b4fba", func := "smalto/smaltolaw01.FixedMods", spec := "fixedMods", apart := false }
def FixedModsSaid : Prop := fixedModsRow.holds Try.pinned (OpenSpec.ofChange fixedModsSpec)

/-- ITS FALSE NEIGHBOUR: 'it returns false'. Refute it at one input. -/
def fixedModsWrong : ChangeSpec := { name := "fixedMods", fn := fun _ => fun
  | [d1, d2] => { results := [.lit (.bool false)], args := [d1, d2] }
  | _ => none }
def FixedModsWrongFalsely : Prop := fixedModsRow.holds Try.pinned (OpenSpec.ofChange fixedModsWrong)

/-- 'smaltolaw01.FixedShifts': WHATEVER THE INPUT: true; the input reads as it did. -/
def fixedShiftsSpec : ChangeSpec := { name := "fixedShifts", fn := fun _ => fun
  | [d1, d2] => { results := [.lit (.bool true)], args := [d1, d2] }
  | _ => none }
def fixedShiftsRow : OpenClaim := { program := "ytofmgoihoaookaa", sum := "ef853321df0e566534dd05ffb7855c75fad731e3d4de11317ab0c663ae5b4fba", func := "smalto/smaltolaw01.FixedShifts", spec := "fixedShifts", apart := false }
def FixedShiftsSaid : Prop := fixedShiftsRow.holds Try.pinned (OpenSpec.ofChange fixedShiftsSpec)

/-- ITS FALSE NEIGHBOUR: 'it returns false'. Refute it at one input. -/
def fixedShiftsWrong : ChangeSpec := { name := "fixedShifts", fn := fun _ => fun
  | [d1, d2] => { results := [.lit (.bool false)], args := [d1, d2] }
  | _ => none }
def FixedShiftsWrongFalsely : Prop := fixedShiftsRow.holds Try.pinned (OpenSpec.ofChange fixedShiftsWrong)

/-- 'smaltolaw01.FixedGcds': WHATEVER THE INPUT: true; the input reads as it did. -/
def fixedGcdsSpec : ChangeSpec := { name := "fixedGcds", fn := fun _ => fun
  | [d1, d2] => { results := [.lit (.bool true)], args := [d1, d2] }
  | _ => none }
def fixedGcdsRow : OpenClaim := { program := "ytofmgoihoaookaa", sum := "ef853321df0e566534dd05ffb7855c75fad731e3d4de11317ab0c663ae5b4fba", func := "smalto/smaltolaw01.FixedGcds", spec := "fixedGcds", apart := false }
def FixedGcdsSaid : Prop := fixedGcdsRow.holds Try.pinned (OpenSpec.ofChange fixedGcdsSpec)

/-- ITS FALSE NEIGHBOUR: 'it returns false'. Refute it at one input. -/
def fixedGcdsWrong : ChangeSpec := { name := "fixedGcds", fn := fun _ => fun
  | [d1, d2] => { results := [.lit (.bool false)], args := [d1, d2] }
  | _ => none }
def FixedGcdsWrongFalsely : Prop := fixedGcdsRow.holds Try.pinned (OpenSpec.ofChange fixedGcdsWrong)

/-- 'smaltolaw01.FixedHolds': WHATEVER THE INPUT: true; the input reads as it did. -/
def fixedHoldsSpec : ChangeSpec := { name := "fixedHolds", fn := fun _ => fun
  | [d1, d2, d3] => { results := [.lit (.bool true)], args := [d1, d2, d3] }
  | _ => none }
def fixedHoldsRow : OpenClaim := { program := "ytofmgoihoaookaa", sum := "ef853321df0e566534dd05ffb7855c75fad731e3d4de11317ab0c663ae5b4fba", func := "smalto/smaltolaw01.FixedHolds", spec := "fixedHolds", apart := false }
def FixedHoldsSaid : Prop := fixedHoldsRow.holds Try.pinned (OpenSpec.ofChange fixedHoldsSpec)

/-- ITS FALSE NEIGHBOUR: 'it returns false'. Refute it at one input. -/
def fixedHoldsWrong : ChangeSpec := { name := "fixedHolds", fn := fun _ => fun
  | [d1, d2, d3] => { results := [.lit (.bool false)], args := [d1, d2, d3] }
  | _ => none }
def FixedHoldsWrongFalsely : Prop := fixedHoldsRow.holds Try.pinned (OpenSpec.ofChange fixedHoldsWrong)

/- THE SECOND FORM. 'bulk': how many values and letters a reading holds, each counted each time it is reached (what is shared counts as often as it is met; a slice's spare places count too). A statement '..UptoSaid' is the law's where the arguments, and the package variables that the reading takes, are together of bulk at most 1048576: NARROWER than '..Said'. Prove '..Said' where nothing that the law and all that it calls make is longer than what came in: it says more and counts as full. Else prove '..UptoSaid'. A law counts once. -/
mutual
def uptoBulk {H : Type} : DataW H → Nat
  | .lit (.string bytes) => bytes.length + 1
  | .lit _ => 1
  | .nil => 1
  | .ptr d => uptoBulk d + 1
  | .slice elems spare => uptoBulkAll elems + uptoBulkAll spare + 1
  | .agg parts => uptoBulkAll parts + 1
  | .iface _ d => uptoBulk d + 1
  | .map entries => uptoBulkEntries entries + 1
  | .held _ => 1
def uptoBulkAll {H : Type} : List (DataW H) → Nat
  | [] => 0
  | d :: r => uptoBulk d + uptoBulkAll r
def uptoBulkEntries {H : Type} : List (Lit × DataW H) → Nat
  | [] => 0
  | x :: r => uptoBulkEntry x + uptoBulkEntries r
def uptoBulkEntry {H : Type} : Lit × DataW H → Nat
  | (.string bytes, d) => bytes.length + uptoBulk d + 1
  | (_, d) => uptoBulk d + 1
 end
def uptoSmall : (H : Type) → List (DataW H) → Bool := fun _ ds => decide (uptoBulkAll ds ≤ 1048576)
def OpenSpec.upto (s : _root_.Go.ChangeSpec) : _root_.Go.OpenSpec := { _root_.Go.OpenSpec.ofChange s with cond := some uptoSmall }

/-- 'smaltolaw07.BorderWalks', WHERE WHAT IT READS IS OF BULK AT MOST 1048576: true; the input reads as it did. -/
def borderWalksUptoRow : OpenClaim := { program := "ytofmgoihoaookaa", sum := "ef853321df0e566534dd05ffb7855c75fad731e3d4de11317ab0c663ae5b4fba", func := "smalto/smaltolaw07.BorderWalks", spec := "borderWalks", apart := false, narrowed := true }
def BorderWalksUptoSaid : Prop := borderWalksUptoRow.holds Try.pinned (OpenSpec.upto borderWalksSpec)

/-- 'smaltolaw07.BorderAt', WHERE WHAT IT READS IS OF BULK AT MOST 1048576: true; the input reads as it did. -/
def borderAtUptoRow : OpenClaim := { program := "ytofmgoihoaookaa", sum := "ef853321df0e566534dd05ffb7855c75fad731e3d4de11317ab0c663ae5b4fba", func := "smalto/smaltolaw07.BorderAt", spec := "borderAt", apart := false, narrowed := true }
def BorderAtUptoSaid : Prop := borderAtUptoRow.holds Try.pinned (OpenSpec.upto borderAtSpec)

/-- 'smaltolaw07.BorderIn', WHERE WHAT IT READS IS OF BULK AT MOST 1048576: true; the input reads as it did. -/
def borderInUptoRow : OpenClaim := { program := "ytofmgoihoaookaa", sum := "ef853321df0e566534dd05ffb7855c75fad731e3d4de11317ab0c663ae5b4fba", func := "smalto/smaltolaw07.BorderIn", spec := "borderIn", apart := false, narrowed := true }
def BorderInUptoSaid : Prop := borderInUptoRow.holds Try.pinned (OpenSpec.upto borderInSpec)

/-- 'smaltolaw07.BorderSpans', WHERE WHAT IT READS IS OF BULK AT MOST 1048576: true; the input reads as it did. -/
def borderSpansUptoRow : OpenClaim := { program := "ytofmgoihoaookaa", sum := "ef853321df0e566534dd05ffb7855c75fad731e3d4de11317ab0c663ae5b4fba", func := "smalto/smaltolaw07.BorderSpans", spec := "borderSpans", apart := false, narrowed := true }
def BorderSpansUptoSaid : Prop := borderSpansUptoRow.holds Try.pinned (OpenSpec.upto borderSpansSpec)

/-- 'smaltolaw01.FixedDivides', WHERE WHAT IT READS IS OF BULK AT MOST 1048576: true; the input reads as it did. -/
def fixedDividesUptoRow : OpenClaim := { program := "ytofmgoihoaookaa", sum := "ef853321df0e566534dd05ffb7855c75fad731e3d4de11317ab0c663ae5b4fba", func := "smalto/smaltolaw01.FixedDivides", spec := "fixedDivides", apart := false, narrowed := true }
def FixedDividesUptoSaid : Prop := fixedDividesUptoRow.holds Try.pinned (OpenSpec.upto fixedDividesSpec)

/-- 'smaltolaw01.FixedMods', WHERE WHAT IT READS IS OF BULK AT MOST 1048576: true; the input reads as it did. -/
def fixedModsUptoRow : OpenClaim := { program := "ytofmgoihoaookaa", sum := "ef853321df0e566534dd05ffb7855c75fad731e3d4de11317ab0c663ae5b4fba", func := "smalto/smaltolaw01.FixedMods", spec := "fixedMods", apart := false, narrowed := true }
def FixedModsUptoSaid : Prop := fixedModsUptoRow.holds Try.pinned (OpenSpec.upto fixedModsSpec)

/-- 'smaltolaw01.FixedShifts', WHERE WHAT IT READS IS OF BULK AT MOST 1048576: true; the input reads as it did. -/
def fixedShiftsUptoRow : OpenClaim := { program := "ytofmgoihoaookaa", sum := "ef853321df0e566534dd05ffb7855c75fad731e3d4de11317ab0c663ae5b4fba", func := "smalto/smaltolaw01.FixedShifts", spec := "fixedShifts", apart := false, narrowed := true }
def FixedShiftsUptoSaid : Prop := fixedShiftsUptoRow.holds Try.pinned (OpenSpec.upto fixedShiftsSpec)

/-- 'smaltolaw01.FixedGcds', WHERE WHAT IT READS IS OF BULK AT MOST 1048576: true; the input reads as it did. -/
def fixedGcdsUptoRow : OpenClaim := { program := "ytofmgoihoaookaa", sum := "ef853321df0e566534dd05ffb7855c75fad731e3d4de11317ab0c663ae5b4fba", func := "smalto/smaltolaw01.FixedGcds", spec := "fixedGcds", apart := false, narrowed := true }
def FixedGcdsUptoSaid : Prop := fixedGcdsUptoRow.holds Try.pinned (OpenSpec.upto fixedGcdsSpec)

/-- 'smaltolaw01.FixedHolds', WHERE WHAT IT READS IS OF BULK AT MOST 1048576: true; the input reads as it did. -/
def fixedHoldsUptoRow : OpenClaim := { program := "ytofmgoihoaookaa", sum := "ef853321df0e566534dd05ffb7855c75fad731e3d4de11317ab0c663ae5b4fba", func := "smalto/smaltolaw01.FixedHolds", spec := "fixedHolds", apart := false, narrowed := true }
def FixedHoldsUptoSaid : Prop := fixedHoldsUptoRow.holds Try.pinned (OpenSpec.upto fixedHoldsSpec)

end Rows
end Go.Proofs.Ytofmgoihoaookaa
