/-
  No cell of these rows narrows 'for every input' (looked for: loops, veiled, ifaces, maps, wideKeys, modest, calm, conditions, laid).
  DERIVED. THE GIVEN ROWS OF THIS SEAT. 8 by the template 'for every input the law returns true; each argument reads behind the call as it read before'; 0 by the template 'total and deterministic' (their statements: YteiojnljdhjnlaaTotals.lean).
  GIVEN WITH THE SEED: the statements are not yours to turn. If you find one false, say at which input.
  Laid BY PROGRAM, IN A SANDBOX (cutbox-rows.mjs): the forced cells as the released guide's own fill.sh prints them over the translation a8336b0439447d87… (all of the seat's roots in one cut). By AI agents, Wed Nov 11 2026. No macro, syntax, notation, axiom, sorry.
-/
import Derived.Test.YteiojnljdhjnlaaChecked
import GoSem.Claim
import GoSem.ClaimJoined
import GoSem.ClaimMapViews
import Derived.JoinedTies
import Derived.KernelRfl
namespace Go.Proofs.Yteiojnljdhjnlaa
/- THE CELL 'sum', in the pinned program and in every row, IS THE sha256 OF THE DUMP (.gsa) THAT YteiojnljdhjnlaaProg.lean LOADS. Nothing in Lean hashes anything: it is a label: what it is worth is what the hold of that sum in a sandbox is worth. -/
noncomputable def Try.pinned : Pinned := { name := "yteiojnljdhjnlaa", sum := "a8336b0439447d878035495090985deed3df8802eaccf3713bc157df724142f0", checked := Try.checked }
namespace Rows
def none {H : Type} : Left H := { results := [], args := [] }

/-- 'smaltolaw03.ExpoSteps': WHATEVER THE INPUT: true; the input reads as it did. -/
def expoStepsSpec : ChangeSpec := { name := "expoSteps", fn := fun _ => fun
  | [d1, d2, d3] => { results := [.lit (.bool true)], args := [d1, d2, d3] }
  | _ => none }
def expoStepsRow : OpenClaim := { program := "yteiojnljdhjnlaa", sum := "a8336b0439447d878035495090985deed3df8802eaccf3713bc157df724142f0", func := "smalto/smaltolaw03.ExpoSteps", spec := "expoSteps", inPlace := ["math/bits.Add64"], named := ["math/bits.divideError", "math/bits.overflowError"], apart := false }
def ExpoStepsSaid : Prop := expoStepsRow.holds Try.pinned (OpenSpec.ofChange expoStepsSpec)

/-- ITS FALSE NEIGHBOUR: 'it returns false'. Refute it at one input. -/
def expoStepsWrong : ChangeSpec := { name := "expoSteps", fn := fun _ => fun
  | [d1, d2, d3] => { results := [.lit (.bool false)], args := [d1, d2, d3] }
  | _ => none }
def ExpoStepsWrongFalsely : Prop := expoStepsRow.holds Try.pinned (OpenSpec.ofChange expoStepsWrong)

/-- 'smaltolaw03.ExpoHalves': WHATEVER THE INPUT: true; the input reads as it did. -/
def expoHalvesSpec : ChangeSpec := { name := "expoHalves", fn := fun _ => fun
  | [d] => { results := [.lit (.bool true)], args := [d] }
  | _ => none }
def expoHalvesRow : OpenClaim := { program := "yteiojnljdhjnlaa", sum := "a8336b0439447d878035495090985deed3df8802eaccf3713bc157df724142f0", func := "smalto/smaltolaw03.ExpoHalves", spec := "expoHalves", inPlace := ["math/bits.Add64"], named := ["math/bits.divideError", "math/bits.overflowError"], apart := false }
def ExpoHalvesSaid : Prop := expoHalvesRow.holds Try.pinned (OpenSpec.ofChange expoHalvesSpec)

/-- ITS FALSE NEIGHBOUR: 'it returns false'. Refute it at one input. -/
def expoHalvesWrong : ChangeSpec := { name := "expoHalves", fn := fun _ => fun
  | [d] => { results := [.lit (.bool false)], args := [d] }
  | _ => none }
def ExpoHalvesWrongFalsely : Prop := expoHalvesRow.holds Try.pinned (OpenSpec.ofChange expoHalvesWrong)

/-- 'smaltolaw03.ExpoEdges': WHATEVER THE INPUT: true; the input reads as it did. -/
def expoEdgesSpec : ChangeSpec := { name := "expoEdges", fn := fun _ => fun
  | [d1, d2, d3] => { results := [.lit (.bool true)], args := [d1, d2, d3] }
  | _ => none }
def expoEdgesRow : OpenClaim := { program := "yteiojnljdhjnlaa", sum := "a8336b0439447d878035495090985deed3df8802eaccf3713bc157df724142f0", func := "smalto/smaltolaw03.ExpoEdges", spec := "expoEdges", inPlace := ["math/bits.Add64"], named := ["math/bits.divideError", "math/bits.overflowError"], apart := false }
def ExpoEdgesSaid : Prop := expoEdgesRow.holds Try.pinned (OpenSpec.ofChange expoEdgesSpec)

/-- ITS FALSE NEIGHBOUR: 'it returns false'. Refute it at one input. -/
def expoEdgesWrong : ChangeSpec := { name := "expoEdges", fn := fun _ => fun
  | [d1, d2, d3] => { results := [.lit (.bool false)], args := [d1, d2, d3] }
  | _ => none }
def ExpoEdgesWrongFalsely : Prop := expoEdgesRow.holds Try.pinned (OpenSpec.ofChange expoEdgesWrong)

/-- 'smaltolaw02.WideTurns': WHATEVER THE INPUT: true; the input reads as it did. -/
def wideTurnsSpec : ChangeSpec := { name := "wideTurns", fn := fun _ => fun
  | [d1, d2, d3] => { results := [.lit (.bool true)], args := [d1, d2, d3] }
  | _ => none }
def wideTurnsRow : OpenClaim := { program := "yteiojnljdhjnlaa", sum := "a8336b0439447d878035495090985deed3df8802eaccf3713bc157df724142f0", func := "smalto/smaltolaw02.WideTurns", spec := "wideTurns", inPlace := ["math/bits.Add64"], named := ["math/bits.divideError", "math/bits.overflowError"], apart := false }
def WideTurnsSaid : Prop := wideTurnsRow.holds Try.pinned (OpenSpec.ofChange wideTurnsSpec)

/-- ITS FALSE NEIGHBOUR: 'it returns false'. Refute it at one input. -/
def wideTurnsWrong : ChangeSpec := { name := "wideTurns", fn := fun _ => fun
  | [d1, d2, d3] => { results := [.lit (.bool false)], args := [d1, d2, d3] }
  | _ => none }
def WideTurnsWrongFalsely : Prop := wideTurnsRow.holds Try.pinned (OpenSpec.ofChange wideTurnsWrong)

/-- 'smaltolaw02.WideSums': WHATEVER THE INPUT: true; the input reads as it did. -/
def wideSumsSpec : ChangeSpec := { name := "wideSums", fn := fun _ => fun
  | [d1, d2] => { results := [.lit (.bool true)], args := [d1, d2] }
  | _ => none }
def wideSumsRow : OpenClaim := { program := "yteiojnljdhjnlaa", sum := "a8336b0439447d878035495090985deed3df8802eaccf3713bc157df724142f0", func := "smalto/smaltolaw02.WideSums", spec := "wideSums", inPlace := ["math/bits.Add64"], named := ["math/bits.divideError", "math/bits.overflowError"], apart := false }
def WideSumsSaid : Prop := wideSumsRow.holds Try.pinned (OpenSpec.ofChange wideSumsSpec)

/-- ITS FALSE NEIGHBOUR: 'it returns false'. Refute it at one input. -/
def wideSumsWrong : ChangeSpec := { name := "wideSums", fn := fun _ => fun
  | [d1, d2] => { results := [.lit (.bool false)], args := [d1, d2] }
  | _ => none }
def WideSumsWrongFalsely : Prop := wideSumsRow.holds Try.pinned (OpenSpec.ofChange wideSumsWrong)

/-- 'smaltolaw02.WideHolds': WHATEVER THE INPUT: true; the input reads as it did. -/
def wideHoldsSpec : ChangeSpec := { name := "wideHolds", fn := fun _ => fun
  | [d1, d2] => { results := [.lit (.bool true)], args := [d1, d2] }
  | _ => none }
def wideHoldsRow : OpenClaim := { program := "yteiojnljdhjnlaa", sum := "a8336b0439447d878035495090985deed3df8802eaccf3713bc157df724142f0", func := "smalto/smaltolaw02.WideHolds", spec := "wideHolds", inPlace := ["math/bits.Add64"], named := ["math/bits.divideError", "math/bits.overflowError"], apart := false }
def WideHoldsSaid : Prop := wideHoldsRow.holds Try.pinned (OpenSpec.ofChange wideHoldsSpec)

/-- ITS FALSE NEIGHBOUR: 'it returns false'. Refute it at one input. -/
def wideHoldsWrong : ChangeSpec := { name := "wideHolds", fn := fun _ => fun
  | [d1, d2] => { results := [.lit (.bool false)], args := [d1, d2] }
  | _ => none }
def WideHoldsWrongFalsely : Prop := wideHoldsRow.holds Try.pinned (OpenSpec.ofChange wideHoldsWrong)

/-- 'smaltolaw02.WideProducts': WHATEVER THE INPUT: true; the input reads as it did. -/
def wideProductsSpec : ChangeSpec := { name := "wideProducts", fn := fun _ => fun
  | [d1, d2, d3, d4] => { results := [.lit (.bool true)], args := [d1, d2, d3, d4] }
  | _ => none }
def wideProductsRow : OpenClaim := { program := "yteiojnljdhjnlaa", sum := "a8336b0439447d878035495090985deed3df8802eaccf3713bc157df724142f0", func := "smalto/smaltolaw02.WideProducts", spec := "wideProducts", inPlace := ["math/bits.Add64"], named := ["math/bits.divideError", "math/bits.overflowError"], apart := false }
def WideProductsSaid : Prop := wideProductsRow.holds Try.pinned (OpenSpec.ofChange wideProductsSpec)

/-- ITS FALSE NEIGHBOUR: 'it returns false'. Refute it at one input. -/
def wideProductsWrong : ChangeSpec := { name := "wideProducts", fn := fun _ => fun
  | [d1, d2, d3, d4] => { results := [.lit (.bool false)], args := [d1, d2, d3, d4] }
  | _ => none }
def WideProductsWrongFalsely : Prop := wideProductsRow.holds Try.pinned (OpenSpec.ofChange wideProductsWrong)

/-- 'smaltolaw02.WideSmall': WHATEVER THE INPUT: true; the input reads as it did. -/
def wideSmallSpec : ChangeSpec := { name := "wideSmall", fn := fun _ => fun
  | [d1, d2, d3, d4] => { results := [.lit (.bool true)], args := [d1, d2, d3, d4] }
  | _ => none }
def wideSmallRow : OpenClaim := { program := "yteiojnljdhjnlaa", sum := "a8336b0439447d878035495090985deed3df8802eaccf3713bc157df724142f0", func := "smalto/smaltolaw02.WideSmall", spec := "wideSmall", inPlace := ["math/bits.Add64"], named := ["math/bits.divideError", "math/bits.overflowError"], apart := false }
def WideSmallSaid : Prop := wideSmallRow.holds Try.pinned (OpenSpec.ofChange wideSmallSpec)

/-- ITS FALSE NEIGHBOUR: 'it returns false'. Refute it at one input. -/
def wideSmallWrong : ChangeSpec := { name := "wideSmall", fn := fun _ => fun
  | [d1, d2, d3, d4] => { results := [.lit (.bool false)], args := [d1, d2, d3, d4] }
  | _ => none }
def WideSmallWrongFalsely : Prop := wideSmallRow.holds Try.pinned (OpenSpec.ofChange wideSmallWrong)

/- THE SECOND FORM. 'bulk': how many values and letters a reading holds, each counted each time it is reached (what is shared counts as often as it is met; a slice's spare places count too). A statement '..UptoSaid' is the law's where the arguments, and the package variables that the reading takes, are together of bulk at most 1048576: NARROWER than '..Said'. Prove '..Said' where nothing that the law and all that it calls make is longer than what came in: it says more and counts as full. Else prove '..UptoSaid'. A law counts once. -/
mutual
def uptoBulk {H : Type} : DataW H → Nat
  | .lit (.string bytes) => bytes.length + 1
  | .lit _ => 1
  | .nil => 1
  | .ptr d => uptoBulk d + 1
  | .slice elems spare => uptoBulkAll elems + uptoBulkAll spare + 1
  | .agg parts => uptoBulkAll parts + 1
  | .iface _ d => uptoBulk d + 1
  | .map entries => uptoBulkEntries entries + 1
  | .held _ => 1
def uptoBulkAll {H : Type} : List (DataW H) → Nat
  | [] => 0
  | d :: r => uptoBulk d + uptoBulkAll r
def uptoBulkEntries {H : Type} : List (Lit × DataW H) → Nat
  | [] => 0
  | x :: r => uptoBulkEntry x + uptoBulkEntries r
def uptoBulkEntry {H : Type} : Lit × DataW H → Nat
  | (.string bytes, d) => bytes.length + uptoBulk d + 1
  | (_, d) => uptoBulk d + 1
 end
def uptoSmall : (H : Type) → List (DataW H) → Bool := fun _ ds => decide (uptoBulkAll ds ≤ 1048576)
def OpenSpec.upto (s : _root_.Go.ChangeSpec) : _root_.Go.OpenSpec := { _root_.Go.OpenSpec.ofChange s with cond := some uptoSmall }

/-- 'smaltolaw03.ExpoSteps', WHERE WHAT IT READS IS OF BULK AT MOST 1048576: true; the input reads as it did. -/
def expoStepsUptoRow : OpenClaim := { program := "yteiojnljdhjnlaa", sum := "a8336b0439447d878035495090985deed3df8802eaccf3713bc157df724142f0", func := "smalto/smaltolaw03.ExpoSteps", spec := "expoSteps", inPlace := ["math/bits.Add64"], named := ["math/bits.divideError", "math/bits.overflowError"], apart := false, narrowed := true }
def ExpoStepsUptoSaid : Prop := expoStepsUptoRow.holds Try.pinned (OpenSpec.upto expoStepsSpec)

/-- 'smaltolaw03.ExpoHalves', WHERE WHAT IT READS IS OF BULK AT MOST 1048576: true; the input reads as it did. -/
def expoHalvesUptoRow : OpenClaim := { program := "yteiojnljdhjnlaa", sum := "a8336b0439447d878035495090985deed3df8802eaccf3713bc157df724142f0", func := "smalto/smaltolaw03.ExpoHalves", spec := "expoHalves", inPlace := ["math/bits.Add64"], named := ["math/bits.divideError", "math/bits.overflowError"], apart := false, narrowed := true }
def ExpoHalvesUptoSaid : Prop := expoHalvesUptoRow.holds Try.pinned (OpenSpec.upto expoHalvesSpec)

/-- 'smaltolaw03.ExpoEdges', WHERE WHAT IT READS IS OF BULK AT MOST 1048576: true; the input reads as it did. -/
def expoEdgesUptoRow : OpenClaim := { program := "yteiojnljdhjnlaa", sum := "a8336b0439447d878035495090985deed3df8802eaccf3713bc157df724142f0", func := "smalto/smaltolaw03.ExpoEdges", spec := "expoEdges", inPlace := ["math/bits.Add64"], named := ["math/bits.divideError", "math/bits.overflowError"], apart := false, narrowed := true }
def ExpoEdgesUptoSaid : Prop := expoEdgesUptoRow.holds Try.pinned (OpenSpec.upto expoEdgesSpec)

/-- 'smaltolaw02.WideTurns', WHERE WHAT IT READS IS OF BULK AT MOST 1048576: true; the input reads as it did. -/
def wideTurnsUptoRow : OpenClaim := { program := "yteiojnljdhjnlaa", sum := "a8336b0439447d878035495090985deed3df8802eaccf3713bc157df724142f0", func := "smalto/smaltolaw02.WideTurns", spec := "wideTurns", inPlace := ["math/bits.Add64"], named := ["math/bits.divideError", "math/bits.overflowError"], apart := false, narrowed := true }
def WideTurnsUptoSaid : Prop := wideTurnsUptoRow.holds Try.pinned (OpenSpec.upto wideTurnsSpec)

/-- 'smaltolaw02.WideSums', WHERE WHAT IT READS IS OF BULK AT MOST 1048576: true; the input reads as it did. -/
def wideSumsUptoRow : OpenClaim := { program := "yteiojnljdhjnlaa", sum := "a8336b0439447d878035495090985deed3df8802eaccf3713bc157df724142f0", func := "smalto/smaltolaw02.WideSums", spec := "wideSums", inPlace := ["math/bits.Add64"], named := ["math/bits.divideError", "math/bits.overflowError"], apart := false, narrowed := true }
def WideSumsUptoSaid : Prop := wideSumsUptoRow.holds Try.pinned (OpenSpec.upto wideSumsSpec)

/-- 'smaltolaw02.WideHolds', WHERE WHAT IT READS IS OF BULK AT MOST 1048576: true; the input reads as it did. -/
def wideHoldsUptoRow : OpenClaim := { program := "yteiojnljdhjnlaa", sum := "a8336b0439447d878035495090985deed3df8802eaccf3713bc157df724142f0", func := "smalto/smaltolaw02.WideHolds", spec := "wideHolds", inPlace := ["math/bits.Add64"], named := ["math/bits.divideError", "math/bits.overflowError"], apart := false, narrowed := true }
def WideHoldsUptoSaid : Prop := wideHoldsUptoRow.holds Try.pinned (OpenSpec.upto wideHoldsSpec)

/-- 'smaltolaw02.WideProducts', WHERE WHAT IT READS IS OF BULK AT MOST 1048576: true; the input reads as it did. -/
def wideProductsUptoRow : OpenClaim := { program := "yteiojnljdhjnlaa", sum := "a8336b0439447d878035495090985deed3df8802eaccf3713bc157df724142f0", func := "smalto/smaltolaw02.WideProducts", spec := "wideProducts", inPlace := ["math/bits.Add64"], named := ["math/bits.divideError", "math/bits.overflowError"], apart := false, narrowed := true }
def WideProductsUptoSaid : Prop := wideProductsUptoRow.holds Try.pinned (OpenSpec.upto wideProductsSpec)

/-- 'smaltolaw02.WideSmall', WHERE WHAT IT READS IS OF BULK AT MOST 1048576: true; the input reads as it did. -/
def wideSmallUptoRow : OpenClaim := { program := "yteiojnljdhjnlaa", sum := "a8336b0439447d878035495090985deed3df8802eaccf3713bc157df724142f0", func := "smalto/smaltolaw02.WideSmall", spec := "wideSmall", inPlace := ["math/bits.Add64"], named := ["math/bits.divideError", "math/bits.overflowError"], apart := false, narrowed := true }
def WideSmallUptoSaid : Prop := wideSmallUptoRow.holds Try.pinned (OpenSpec.upto wideSmallSpec)

end Rows
end Go.Proofs.Yteiojnljdhjnlaa
