/-
  No cell of these rows narrows 'for every input' (looked for: loops, veiled, ifaces, maps, wideKeys, modest, calm, conditions, laid).
  DERIVED. THE GIVEN ROWS OF THIS SEAT. 3 by the template 'for every input the law returns true; each argument reads behind the call as it read before'; 0 by the template 'total and deterministic' (their statements: YtbkbgpileogehaaTotals.lean).
  GIVEN WITH THE SEED: the statements are not yours to turn. If you find one false, say at which input.
  Laid BY PROGRAM, IN A SANDBOX (cutbox-rows.mjs): the forced cells as the released guide's own fill.sh prints them over the translation ee30bba90b6951a8… (all of the seat's roots in one cut). By AI agents, Wed Nov 11 2026. No macro, syntax, notation, axiom, sorry.
-/
import Derived.Test.YtbkbgpileogehaaChecked
import GoSem.Claim
import GoSem.ClaimJoined
import GoSem.ClaimMapViews
import Derived.JoinedTies
import Derived.KernelRfl
namespace Go.Proofs.Ytbkbgpileogehaa
/- THE CELL 'sum', in the pinned program and in every row, IS THE sha256 OF THE DUMP (.gsa) THAT YtbkbgpileogehaaProg.lean LOADS. Nothing in Lean hashes anything: it is a label: what it is worth is what the hold of that sum in a sandbox is worth. -/
noncomputable def Try.pinned : Pinned := { name := "ytbkbgpileogehaa", sum := "ee30bba90b6951a8c431fdfd3c841afe9449aa3a5ae8ea2a8902fc306b4b9b89", checked := Try.checked }
namespace Rows
def none {H : Type} : Left H := { results := [], args := [] }

/-- 'smaltolaw04.SincSteps': WHATEVER THE INPUT: true; the input reads as it did. -/
def sincStepsSpec : ChangeSpec := { name := "sincSteps", fn := fun _ => fun
  | [d1, d2] => { results := [.lit (.bool true)], args := [d1, d2] }
  | _ => none }
def sincStepsRow : OpenClaim := { program := "ytbkbgpileogehaa", sum := "ee30bba90b6951a8c431fdfd3c841afe9449aa3a5ae8ea2a8902fc306b4b9b89", func := "smalto/smaltolaw04.SincSteps", spec := "sincSteps", inPlace := ["math/bits.Add64"], named := ["math/bits.divideError", "math/bits.overflowError"], apart := false }
def SincStepsSaid : Prop := sincStepsRow.holds Try.pinned (OpenSpec.ofChange sincStepsSpec)

/-- ITS FALSE NEIGHBOUR: 'it returns false'. Refute it at one input. -/
def sincStepsWrong : ChangeSpec := { name := "sincSteps", fn := fun _ => fun
  | [d1, d2] => { results := [.lit (.bool false)], args := [d1, d2] }
  | _ => none }
def SincStepsWrongFalsely : Prop := sincStepsRow.holds Try.pinned (OpenSpec.ofChange sincStepsWrong)

/-- 'smaltolaw04.SincEven': WHATEVER THE INPUT: true; the input reads as it did. -/
def sincEvenSpec : ChangeSpec := { name := "sincEven", fn := fun _ => fun
  | [d1, d2] => { results := [.lit (.bool true)], args := [d1, d2] }
  | _ => none }
def sincEvenRow : OpenClaim := { program := "ytbkbgpileogehaa", sum := "ee30bba90b6951a8c431fdfd3c841afe9449aa3a5ae8ea2a8902fc306b4b9b89", func := "smalto/smaltolaw04.SincEven", spec := "sincEven", inPlace := ["math/bits.Add64"], named := ["math/bits.divideError", "math/bits.overflowError"], apart := false }
def SincEvenSaid : Prop := sincEvenRow.holds Try.pinned (OpenSpec.ofChange sincEvenSpec)

/-- ITS FALSE NEIGHBOUR: 'it returns false'. Refute it at one input. -/
def sincEvenWrong : ChangeSpec := { name := "sincEven", fn := fun _ => fun
  | [d1, d2] => { results := [.lit (.bool false)], args := [d1, d2] }
  | _ => none }
def SincEvenWrongFalsely : Prop := sincEvenRow.holds Try.pinned (OpenSpec.ofChange sincEvenWrong)

/-- 'smaltolaw04.SincWhole': WHATEVER THE INPUT: true; the input reads as it did. -/
def sincWholeSpec : ChangeSpec := { name := "sincWhole", fn := fun _ => fun
  | [d1, d2] => { results := [.lit (.bool true)], args := [d1, d2] }
  | _ => none }
def sincWholeRow : OpenClaim := { program := "ytbkbgpileogehaa", sum := "ee30bba90b6951a8c431fdfd3c841afe9449aa3a5ae8ea2a8902fc306b4b9b89", func := "smalto/smaltolaw04.SincWhole", spec := "sincWhole", inPlace := ["math/bits.Add64"], named := ["math/bits.divideError", "math/bits.overflowError"], apart := false }
def SincWholeSaid : Prop := sincWholeRow.holds Try.pinned (OpenSpec.ofChange sincWholeSpec)

/-- ITS FALSE NEIGHBOUR: 'it returns false'. Refute it at one input. -/
def sincWholeWrong : ChangeSpec := { name := "sincWhole", fn := fun _ => fun
  | [d1, d2] => { results := [.lit (.bool false)], args := [d1, d2] }
  | _ => none }
def SincWholeWrongFalsely : Prop := sincWholeRow.holds Try.pinned (OpenSpec.ofChange sincWholeWrong)

/- THE SECOND FORM. 'bulk': how many values and letters a reading holds, each counted each time it is reached (what is shared counts as often as it is met; a slice's spare places count too). A statement '..UptoSaid' is the law's where the arguments, and the package variables that the reading takes, are together of bulk at most 1048576: NARROWER than '..Said'. Prove '..Said' where nothing that the law and all that it calls make is longer than what came in: it says more and counts as full. Else prove '..UptoSaid'. A law counts once. -/
mutual
def uptoBulk {H : Type} : DataW H → Nat
  | .lit (.string bytes) => bytes.length + 1
  | .lit _ => 1
  | .nil => 1
  | .ptr d => uptoBulk d + 1
  | .slice elems spare => uptoBulkAll elems + uptoBulkAll spare + 1
  | .agg parts => uptoBulkAll parts + 1
  | .iface _ d => uptoBulk d + 1
  | .map entries => uptoBulkEntries entries + 1
  | .held _ => 1
def uptoBulkAll {H : Type} : List (DataW H) → Nat
  | [] => 0
  | d :: r => uptoBulk d + uptoBulkAll r
def uptoBulkEntries {H : Type} : List (Lit × DataW H) → Nat
  | [] => 0
  | x :: r => uptoBulkEntry x + uptoBulkEntries r
def uptoBulkEntry {H : Type} : Lit × DataW H → Nat
  | (.string bytes, d) => bytes.length + uptoBulk d + 1
  | (_, d) => uptoBulk d + 1
 end
def uptoSmall : (H : Type) → List (DataW H) → Bool := fun _ ds => decide (uptoBulkAll ds ≤ 1048576)
def OpenSpec.upto (s : _root_.Go.ChangeSpec) : _root_.Go.OpenSpec := { _root_.Go.OpenSpec.ofChange s with cond := some uptoSmall }

/-- 'smaltolaw04.SincSteps', WHERE WHAT IT READS IS OF BULK AT MOST 1048576: true; the input reads as it did. -/
def sincStepsUptoRow : OpenClaim := { program := "ytbkbgpileogehaa", sum := "ee30bba90b6951a8c431fdfd3c841afe9449aa3a5ae8ea2a8902fc306b4b9b89", func := "smalto/smaltolaw04.SincSteps", spec := "sincSteps", inPlace := ["math/bits.Add64"], named := ["math/bits.divideError", "math/bits.overflowError"], apart := false, narrowed := true }
def SincStepsUptoSaid : Prop := sincStepsUptoRow.holds Try.pinned (OpenSpec.upto sincStepsSpec)

/-- 'smaltolaw04.SincEven', WHERE WHAT IT READS IS OF BULK AT MOST 1048576: true; the input reads as it did. -/
def sincEvenUptoRow : OpenClaim := { program := "ytbkbgpileogehaa", sum := "ee30bba90b6951a8c431fdfd3c841afe9449aa3a5ae8ea2a8902fc306b4b9b89", func := "smalto/smaltolaw04.SincEven", spec := "sincEven", inPlace := ["math/bits.Add64"], named := ["math/bits.divideError", "math/bits.overflowError"], apart := false, narrowed := true }
def SincEvenUptoSaid : Prop := sincEvenUptoRow.holds Try.pinned (OpenSpec.upto sincEvenSpec)

/-- 'smaltolaw04.SincWhole', WHERE WHAT IT READS IS OF BULK AT MOST 1048576: true; the input reads as it did. -/
def sincWholeUptoRow : OpenClaim := { program := "ytbkbgpileogehaa", sum := "ee30bba90b6951a8c431fdfd3c841afe9449aa3a5ae8ea2a8902fc306b4b9b89", func := "smalto/smaltolaw04.SincWhole", spec := "sincWhole", inPlace := ["math/bits.Add64"], named := ["math/bits.divideError", "math/bits.overflowError"], apart := false, narrowed := true }
def SincWholeUptoSaid : Prop := sincWholeUptoRow.holds Try.pinned (OpenSpec.upto sincWholeSpec)

end Rows
end Go.Proofs.Ytbkbgpileogehaa
