/-
  NARROWER THAN 'FOR EVERY INPUT', by the rows' own cells (each row's printed sentence says how): TableMoves: laid · TableResizes: laid · TableSums: laid · TableFilters: laid · TableSame: laid.
  DERIVED. THE GIVEN ROWS OF THIS SEAT. 5 by the template 'for every input the law returns true; each argument reads behind the call as it read before'; 0 by the template 'total and deterministic' (their statements: YthaajkpiknbdbaaDoorTotals.lean).
  GIVEN WITH THE SEED: the statements are not yours to turn. If you find one false, say at which input.
  Laid BY PROGRAM, IN A SANDBOX (cutbox-rows.mjs): the forced cells as the released guide's own fill.sh prints them over the translation 134fd6d927db0606… (all of the seat's roots in one cut). By AI agents, Wed Nov 11 2026. No macro, syntax, notation, axiom, sorry.
-/
import Derived.Test.YthaajkpiknbdbaaDoorChecked
import GoSem.Claim
import GoSem.ClaimJoined
import GoSem.ClaimMapViews
import Derived.JoinedTies
import Derived.KernelRfl
namespace Go.Proofs.YthaajkpiknbdbaaDoor
/- THE CELL 'sum', in the pinned program and in every row, IS THE sha256 OF THE DUMP (.gsa) THAT YthaajkpiknbdbaaDoorProg.lean LOADS. Nothing in Lean hashes anything: it is a label: what it is worth is what the hold of that sum in a sandbox is worth. -/
noncomputable def Tryd.pinned : Pinned := { name := "ythaajkpiknbdbaadoor", sum := "134fd6d927db06060dad7d08aaf9e2b487c5578aaad79421bbb5a6a6c1778895", checked := Tryd.checked }
namespace Rows
def none {H : Type} : Left H := { results := [], args := [] }

/- WHAT THE LISTED PACKAGE-LEVEL VARIABLES READ AS WHEN THE CALL BEGINS. Each datum BY PROGRAM (the guide's laid-datum.mjs) off the statement by which the dump's own 'gosem.cut.vars' lays the variable. In a bare row this is a premise. The card (YthaajkpiknbdbaaDoorCards.lean) ties it to the program's text. -/
def laid_smalto_raw_kinds {H : Type} : DataW H := .agg [.agg [.lit (.string [98, 111, 120]), .lit (.int .i64 0)], .agg [.lit (.string [99, 117, 98, 105, 99]), .lit (.int .i64 2)], .agg [.lit (.string [108, 97, 110, 99, 122, 111, 115]), .lit (.int .i64 3)]]

/-- 'smaltolaw08.TableMoves': WHATEVER THE INPUT: true; the input reads as it did. -/
def tableMovesSpec : ChangeSpec := { name := "tableMoves", fn := fun _ => fun
  | [d1, d2, d3] => { results := [.lit (.bool true)], args := [d1, d2, d3] }
  | _ => none }
def tableMovesRow : OpenClaim := { program := "ythaajkpiknbdbaadoor", sum := "134fd6d927db06060dad7d08aaf9e2b487c5578aaad79421bbb5a6a6c1778895", func := "smalto/smaltolaw08.TableMoves", spec := "tableMoves", inPlace := ["math/bits.Add64"], unfollowed := true, recurses := true, named := ["smalto/raw.kinds", "math/bits.divideError", "math/bits.overflowError"], apart := false, laid := [("smalto/raw.kinds", laid_smalto_raw_kinds)] }
def TableMovesSaid : Prop := tableMovesRow.holds Tryd.pinned (OpenSpec.ofChange tableMovesSpec)

/-- ITS FALSE NEIGHBOUR: 'it returns false'. Refute it at one input. -/
def tableMovesWrong : ChangeSpec := { name := "tableMoves", fn := fun _ => fun
  | [d1, d2, d3] => { results := [.lit (.bool false)], args := [d1, d2, d3] }
  | _ => none }
def TableMovesWrongFalsely : Prop := tableMovesRow.holds Tryd.pinned (OpenSpec.ofChange tableMovesWrong)

/-- 'smaltolaw08.TableResizes': WHATEVER THE INPUT: true; the input reads as it did. -/
def tableResizesSpec : ChangeSpec := { name := "tableResizes", fn := fun _ => fun
  | [d1, d2, d3, d4, d5] => { results := [.lit (.bool true)], args := [d1, d2, d3, d4, d5] }
  | _ => none }
def tableResizesRow : OpenClaim := { program := "ythaajkpiknbdbaadoor", sum := "134fd6d927db06060dad7d08aaf9e2b487c5578aaad79421bbb5a6a6c1778895", func := "smalto/smaltolaw08.TableResizes", spec := "tableResizes", inPlace := ["math/bits.Add64"], unfollowed := true, recurses := true, named := ["smalto/raw.kinds", "math/bits.divideError", "math/bits.overflowError"], apart := false, laid := [("smalto/raw.kinds", laid_smalto_raw_kinds)] }
def TableResizesSaid : Prop := tableResizesRow.holds Tryd.pinned (OpenSpec.ofChange tableResizesSpec)

/-- ITS FALSE NEIGHBOUR: 'it returns false'. Refute it at one input. -/
def tableResizesWrong : ChangeSpec := { name := "tableResizes", fn := fun _ => fun
  | [d1, d2, d3, d4, d5] => { results := [.lit (.bool false)], args := [d1, d2, d3, d4, d5] }
  | _ => none }
def TableResizesWrongFalsely : Prop := tableResizesRow.holds Tryd.pinned (OpenSpec.ofChange tableResizesWrong)

/-- 'smaltolaw08.TableSums': WHATEVER THE INPUT: true; the input reads as it did. -/
def tableSumsSpec : ChangeSpec := { name := "tableSums", fn := fun _ => fun
  | [d1, d2, d3] => { results := [.lit (.bool true)], args := [d1, d2, d3] }
  | _ => none }
def tableSumsRow : OpenClaim := { program := "ythaajkpiknbdbaadoor", sum := "134fd6d927db06060dad7d08aaf9e2b487c5578aaad79421bbb5a6a6c1778895", func := "smalto/smaltolaw08.TableSums", spec := "tableSums", inPlace := ["math/bits.Add64"], unfollowed := true, recurses := true, named := ["smalto/raw.kinds", "math/bits.divideError", "math/bits.overflowError"], apart := false, laid := [("smalto/raw.kinds", laid_smalto_raw_kinds)] }
def TableSumsSaid : Prop := tableSumsRow.holds Tryd.pinned (OpenSpec.ofChange tableSumsSpec)

/-- ITS FALSE NEIGHBOUR: 'it returns false'. Refute it at one input. -/
def tableSumsWrong : ChangeSpec := { name := "tableSums", fn := fun _ => fun
  | [d1, d2, d3] => { results := [.lit (.bool false)], args := [d1, d2, d3] }
  | _ => none }
def TableSumsWrongFalsely : Prop := tableSumsRow.holds Tryd.pinned (OpenSpec.ofChange tableSumsWrong)

/-- 'smaltolaw08.TableFilters': WHATEVER THE INPUT: true; the input reads as it did. -/
def tableFiltersSpec : ChangeSpec := { name := "tableFilters", fn := fun _ => fun
  | [d1, d2, d3, d4] => { results := [.lit (.bool true)], args := [d1, d2, d3, d4] }
  | _ => none }
def tableFiltersRow : OpenClaim := { program := "ythaajkpiknbdbaadoor", sum := "134fd6d927db06060dad7d08aaf9e2b487c5578aaad79421bbb5a6a6c1778895", func := "smalto/smaltolaw08.TableFilters", spec := "tableFilters", inPlace := ["math/bits.Add64"], unfollowed := true, recurses := true, named := ["smalto/raw.kinds", "math/bits.divideError", "math/bits.overflowError"], apart := false, laid := [("smalto/raw.kinds", laid_smalto_raw_kinds)] }
def TableFiltersSaid : Prop := tableFiltersRow.holds Tryd.pinned (OpenSpec.ofChange tableFiltersSpec)

/-- ITS FALSE NEIGHBOUR: 'it returns false'. Refute it at one input. -/
def tableFiltersWrong : ChangeSpec := { name := "tableFilters", fn := fun _ => fun
  | [d1, d2, d3, d4] => { results := [.lit (.bool false)], args := [d1, d2, d3, d4] }
  | _ => none }
def TableFiltersWrongFalsely : Prop := tableFiltersRow.holds Tryd.pinned (OpenSpec.ofChange tableFiltersWrong)

/-- 'smaltolaw08.TableSame': WHATEVER THE INPUT: true; the input reads as it did. -/
def tableSameSpec : ChangeSpec := { name := "tableSame", fn := fun _ => fun
  | [d] => { results := [.lit (.bool true)], args := [d] }
  | _ => none }
def tableSameRow : OpenClaim := { program := "ythaajkpiknbdbaadoor", sum := "134fd6d927db06060dad7d08aaf9e2b487c5578aaad79421bbb5a6a6c1778895", func := "smalto/smaltolaw08.TableSame", spec := "tableSame", inPlace := ["math/bits.Add64"], unfollowed := true, recurses := true, named := ["smalto/raw.kinds", "math/bits.divideError", "math/bits.overflowError"], apart := false, laid := [("smalto/raw.kinds", laid_smalto_raw_kinds)] }
def TableSameSaid : Prop := tableSameRow.holds Tryd.pinned (OpenSpec.ofChange tableSameSpec)

/-- ITS FALSE NEIGHBOUR: 'it returns false'. Refute it at one input. -/
def tableSameWrong : ChangeSpec := { name := "tableSame", fn := fun _ => fun
  | [d] => { results := [.lit (.bool false)], args := [d] }
  | _ => none }
def TableSameWrongFalsely : Prop := tableSameRow.holds Tryd.pinned (OpenSpec.ofChange tableSameWrong)

/- THE SECOND FORM. 'bulk': how many values and letters a reading holds, each counted each time it is reached (what is shared counts as often as it is met; a slice's spare places count too). A statement '..UptoSaid' is the law's where the arguments, and the package variables that the reading takes, are together of bulk at most 1048576: NARROWER than '..Said'. Prove '..Said' where nothing that the law and all that it calls make is longer than what came in: it says more and counts as full. Else prove '..UptoSaid'. A law counts once. -/
mutual
def uptoBulk {H : Type} : DataW H → Nat
  | .lit (.string bytes) => bytes.length + 1
  | .lit _ => 1
  | .nil => 1
  | .ptr d => uptoBulk d + 1
  | .slice elems spare => uptoBulkAll elems + uptoBulkAll spare + 1
  | .agg parts => uptoBulkAll parts + 1
  | .iface _ d => uptoBulk d + 1
  | .map entries => uptoBulkEntries entries + 1
  | .held _ => 1
def uptoBulkAll {H : Type} : List (DataW H) → Nat
  | [] => 0
  | d :: r => uptoBulk d + uptoBulkAll r
def uptoBulkEntries {H : Type} : List (Lit × DataW H) → Nat
  | [] => 0
  | x :: r => uptoBulkEntry x + uptoBulkEntries r
def uptoBulkEntry {H : Type} : Lit × DataW H → Nat
  | (.string bytes, d) => bytes.length + uptoBulk d + 1
  | (_, d) => uptoBulk d + 1
 end
def uptoSmall : (H : Type) → List (DataW H) → Bool := fun _ ds => decide (uptoBulkAll ds ≤ 1048576)
def OpenSpec.upto (s : _root_.Go.ChangeSpec) : _root_.Go.OpenSpec := { _root_.Go.OpenSpec.ofChange s with cond := some uptoSmall }

/-- 'smaltolaw08.TableMoves', WHERE WHAT IT READS IS OF BULK AT MOST 1048576: true; the input reads as it did. -/
def tableMovesUptoRow : OpenClaim := { program := "ythaajkpiknbdbaadoor", sum := "134fd6d927db06060dad7d08aaf9e2b487c5578aaad79421bbb5a6a6c1778895", func := "smalto/smaltolaw08.TableMoves", spec := "tableMoves", inPlace := ["math/bits.Add64"], unfollowed := true, recurses := true, named := ["smalto/raw.kinds", "math/bits.divideError", "math/bits.overflowError"], apart := false, laid := [("smalto/raw.kinds", laid_smalto_raw_kinds)], narrowed := true }
def TableMovesUptoSaid : Prop := tableMovesUptoRow.holds Tryd.pinned (OpenSpec.upto tableMovesSpec)

/-- 'smaltolaw08.TableResizes', WHERE WHAT IT READS IS OF BULK AT MOST 1048576: true; the input reads as it did. -/
def tableResizesUptoRow : OpenClaim := { program := "ythaajkpiknbdbaadoor", sum := "134fd6d927db06060dad7d08aaf9e2b487c5578aaad79421bbb5a6a6c1778895", func := "smalto/smaltolaw08.TableResizes", spec := "tableResizes", inPlace := ["math/bits.Add64"], unfollowed := true, recurses := true, named := ["smalto/raw.kinds", "math/bits.divideError", "math/bits.overflowError"], apart := false, laid := [("smalto/raw.kinds", laid_smalto_raw_kinds)], narrowed := true }
def TableResizesUptoSaid : Prop := tableResizesUptoRow.holds Tryd.pinned (OpenSpec.upto tableResizesSpec)

/-- 'smaltolaw08.TableSums', WHERE WHAT IT READS IS OF BULK AT MOST 1048576: true; the input reads as it did. -/
def tableSumsUptoRow : OpenClaim := { program := "ythaajkpiknbdbaadoor", sum := "134fd6d927db06060dad7d08aaf9e2b487c5578aaad79421bbb5a6a6c1778895", func := "smalto/smaltolaw08.TableSums", spec := "tableSums", inPlace := ["math/bits.Add64"], unfollowed := true, recurses := true, named := ["smalto/raw.kinds", "math/bits.divideError", "math/bits.overflowError"], apart := false, laid := [("smalto/raw.kinds", laid_smalto_raw_kinds)], narrowed := true }
def TableSumsUptoSaid : Prop := tableSumsUptoRow.holds Tryd.pinned (OpenSpec.upto tableSumsSpec)

/-- 'smaltolaw08.TableFilters', WHERE WHAT IT READS IS OF BULK AT MOST 1048576: true; the input reads as it did. -/
def tableFiltersUptoRow : OpenClaim := { program := "ythaajkpiknbdbaadoor", sum := "134fd6d927db06060dad7d08aaf9e2b487c5578aaad79421bbb5a6a6c1778895", func := "smalto/smaltolaw08.TableFilters", spec := "tableFilters", inPlace := ["math/bits.Add64"], unfollowed := true, recurses := true, named := ["smalto/raw.kinds", "math/bits.divideError", "math/bits.overflowError"], apart := false, laid := [("smalto/raw.kinds", laid_smalto_raw_kinds)], narrowed := true }
def TableFiltersUptoSaid : Prop := tableFiltersUptoRow.holds Tryd.pinned (OpenSpec.upto tableFiltersSpec)

/-- 'smaltolaw08.TableSame', WHERE WHAT IT READS IS OF BULK AT MOST 1048576: true; the input reads as it did. -/
def tableSameUptoRow : OpenClaim := { program := "ythaajkpiknbdbaadoor", sum := "134fd6d927db06060dad7d08aaf9e2b487c5578aaad79421bbb5a6a6c1778895", func := "smalto/smaltolaw08.TableSame", spec := "tableSame", inPlace := ["math/bits.Add64"], unfollowed := true, recurses := true, named := ["smalto/raw.kinds", "math/bits.divideError", "math/bits.overflowError"], apart := false, laid := [("smalto/raw.kinds", laid_smalto_raw_kinds)], narrowed := true }
def TableSameUptoSaid : Prop := tableSameUptoRow.holds Tryd.pinned (OpenSpec.upto tableSameSpec)

end Rows
end Go.Proofs.YthaajkpiknbdbaaDoor
