/-
  NARROWER THAN 'FOR EVERY INPUT', by the rows' own cells (each row's printed sentence says how): OpMakes: laid · OpAll: laid.
  DERIVED. THE GIVEN ROWS OF THIS SEAT. 2 by the template 'for every input the law returns true; each argument reads behind the call as it read before'; 0 by the template 'total and deterministic' (their statements: YtebipmdopdogkaaGreatDoorTotals.lean).
  GIVEN WITH THE SEED: the statements are not yours to turn. If you find one false, say at which input.
  Laid BY PROGRAM, IN A SANDBOX (cutbox-rows.mjs): the forced cells as the released guide's own fill.sh prints them over the translation 02611370932a5097… (all of the seat's roots in one cut). By AI agents, Wed Nov 11 2026. No macro, syntax, notation, axiom, sorry.
-/
import Derived.Test.YtebipmdopdogkaaGreatDoorChecked
import GoSem.Claim
import GoSem.ClaimJoined
import GoSem.ClaimMapViews
import Derived.JoinedTies
import Derived.KernelRfl
namespace Go.Proofs.YtebipmdopdogkaaGreatDoor
/- THE CELL 'sum', in the pinned program and in every row, IS THE sha256 OF THE DUMP (.gsa) THAT YtebipmdopdogkaaGreatDoorProg.lean LOADS. Nothing in Lean hashes anything: it is a label: what it is worth is what the hold of that sum in a sandbox is worth. -/
noncomputable def Tryz.pinned : Pinned := { name := "ytebipmdopdogkaagreatdoor", sum := "02611370932a5097f58dd070f4e3d1f417db587cccb71a3041e6009f67eac25f", checked := Tryz.checked }
namespace Rows
def none {H : Type} : Left H := { results := [], args := [] }

/- WHAT THE LISTED PACKAGE-LEVEL VARIABLES READ AS WHEN THE CALL BEGINS. Each datum BY PROGRAM (the guide's laid-datum.mjs) off the statement by which the dump's own 'gosem.cut.vars' lays the variable. In a bare row this is a premise. The card (YtebipmdopdogkaaGreatDoorCards.lean) ties it to the program's text. -/
def laid_smalto_border_names {H : Type} : DataW H := .slice [.lit (.string [99, 108, 97, 109, 112]), .lit (.string [109, 105, 114, 114, 111, 114]), .lit (.string [119, 114, 97, 112])] []
def laid_smalto_raw_kinds {H : Type} : DataW H := .agg [.agg [.lit (.string [98, 111, 120]), .lit (.int .i64 0)], .agg [.lit (.string [99, 117, 98, 105, 99]), .lit (.int .i64 2)], .agg [.lit (.string [108, 97, 110, 99, 122, 111, 115]), .lit (.int .i64 3)]]

/-- 'smaltolaw12.OpMakes': WHATEVER THE INPUT: true; the input reads as it did. -/
def opMakesSpec : ChangeSpec := { name := "opMakes", fn := fun _ => fun
  | [d1, d2, d3] => { results := [.lit (.bool true)], args := [d1, d2, d3] }
  | _ => none }
def opMakesRow : OpenClaim := { program := "ytebipmdopdogkaagreatdoor", sum := "02611370932a5097f58dd070f4e3d1f417db587cccb71a3041e6009f67eac25f", func := "smalto/smaltolaw12.OpMakes", spec := "opMakes", inPlace := ["math/bits.Add64"], unfollowed := true, recurses := true, named := ["smalto/border.names", "smalto/raw.kinds", "math/bits.divideError", "math/bits.overflowError"], apart := false, laid := [("smalto/border.names", laid_smalto_border_names), ("smalto/raw.kinds", laid_smalto_raw_kinds)] }
def OpMakesSaid : Prop := opMakesRow.holds Tryz.pinned (OpenSpec.ofChange opMakesSpec)

/-- ITS FALSE NEIGHBOUR: 'it returns false'. Refute it at one input. -/
def opMakesWrong : ChangeSpec := { name := "opMakes", fn := fun _ => fun
  | [d1, d2, d3] => { results := [.lit (.bool false)], args := [d1, d2, d3] }
  | _ => none }
def OpMakesWrongFalsely : Prop := opMakesRow.holds Tryz.pinned (OpenSpec.ofChange opMakesWrong)

/-- 'smaltolaw12.OpAll': WHATEVER THE INPUT: true; the input reads as it did. -/
def opAllSpec : ChangeSpec := { name := "opAll", fn := fun _ => fun
  | [d1, d2, d3, d4] => { results := [.lit (.bool true)], args := [d1, d2, d3, d4] }
  | _ => none }
def opAllRow : OpenClaim := { program := "ytebipmdopdogkaagreatdoor", sum := "02611370932a5097f58dd070f4e3d1f417db587cccb71a3041e6009f67eac25f", func := "smalto/smaltolaw12.OpAll", spec := "opAll", inPlace := ["math/bits.Add64"], unfollowed := true, recurses := true, named := ["smalto/border.names", "smalto/raw.kinds", "math/bits.divideError", "math/bits.overflowError"], apart := false, laid := [("smalto/border.names", laid_smalto_border_names), ("smalto/raw.kinds", laid_smalto_raw_kinds)] }
def OpAllSaid : Prop := opAllRow.holds Tryz.pinned (OpenSpec.ofChange opAllSpec)

/-- ITS FALSE NEIGHBOUR: 'it returns false'. Refute it at one input. -/
def opAllWrong : ChangeSpec := { name := "opAll", fn := fun _ => fun
  | [d1, d2, d3, d4] => { results := [.lit (.bool false)], args := [d1, d2, d3, d4] }
  | _ => none }
def OpAllWrongFalsely : Prop := opAllRow.holds Tryz.pinned (OpenSpec.ofChange opAllWrong)

/- THE SECOND FORM. 'bulk': how many values and letters a reading holds, each counted each time it is reached (what is shared counts as often as it is met; a slice's spare places count too). A statement '..UptoSaid' is the law's where the arguments, and the package variables that the reading takes, are together of bulk at most 1048576: NARROWER than '..Said'. Prove '..Said' where nothing that the law and all that it calls make is longer than what came in: it says more and counts as full. Else prove '..UptoSaid'. A law counts once. -/
mutual
def uptoBulk {H : Type} : DataW H → Nat
  | .lit (.string bytes) => bytes.length + 1
  | .lit _ => 1
  | .nil => 1
  | .ptr d => uptoBulk d + 1
  | .slice elems spare => uptoBulkAll elems + uptoBulkAll spare + 1
  | .agg parts => uptoBulkAll parts + 1
  | .iface _ d => uptoBulk d + 1
  | .map entries => uptoBulkEntries entries + 1
  | .held _ => 1
def uptoBulkAll {H : Type} : List (DataW H) → Nat
  | [] => 0
  | d :: r => uptoBulk d + uptoBulkAll r
def uptoBulkEntries {H : Type} : List (Lit × DataW H) → Nat
  | [] => 0
  | x :: r => uptoBulkEntry x + uptoBulkEntries r
def uptoBulkEntry {H : Type} : Lit × DataW H → Nat
  | (.string bytes, d) => bytes.length + uptoBulk d + 1
  | (_, d) => uptoBulk d + 1
 end
def uptoSmall : (H : Type) → List (DataW H) → Bool := fun _ ds => decide (uptoBulkAll ds ≤ 1048576)
def OpenSpec.upto (s : _root_.Go.ChangeSpec) : _root_.Go.OpenSpec := { _root_.Go.OpenSpec.ofChange s with cond := some uptoSmall }

/-- 'smaltolaw12.OpMakes', WHERE WHAT IT READS IS OF BULK AT MOST 1048576: true; the input reads as it did. -/
def opMakesUptoRow : OpenClaim := { program := "ytebipmdopdogkaagreatdoor", sum := "02611370932a5097f58dd070f4e3d1f417db587cccb71a3041e6009f67eac25f", func := "smalto/smaltolaw12.OpMakes", spec := "opMakes", inPlace := ["math/bits.Add64"], unfollowed := true, recurses := true, named := ["smalto/border.names", "smalto/raw.kinds", "math/bits.divideError", "math/bits.overflowError"], apart := false, laid := [("smalto/border.names", laid_smalto_border_names), ("smalto/raw.kinds", laid_smalto_raw_kinds)], narrowed := true }
def OpMakesUptoSaid : Prop := opMakesUptoRow.holds Tryz.pinned (OpenSpec.upto opMakesSpec)

/-- 'smaltolaw12.OpAll', WHERE WHAT IT READS IS OF BULK AT MOST 1048576: true; the input reads as it did. -/
def opAllUptoRow : OpenClaim := { program := "ytebipmdopdogkaagreatdoor", sum := "02611370932a5097f58dd070f4e3d1f417db587cccb71a3041e6009f67eac25f", func := "smalto/smaltolaw12.OpAll", spec := "opAll", inPlace := ["math/bits.Add64"], unfollowed := true, recurses := true, named := ["smalto/border.names", "smalto/raw.kinds", "math/bits.divideError", "math/bits.overflowError"], apart := false, laid := [("smalto/border.names", laid_smalto_border_names), ("smalto/raw.kinds", laid_smalto_raw_kinds)], narrowed := true }
def OpAllUptoSaid : Prop := opAllUptoRow.holds Tryz.pinned (OpenSpec.upto opAllSpec)

end Rows
end Go.Proofs.YtebipmdopdogkaaGreatDoor
