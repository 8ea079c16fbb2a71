/-
  NARROWER THAN 'FOR EVERY INPUT', by the rows' own cells (each row's printed sentence says how): OpAll: laid · PlanAll: laid · PlanTiles: laid · PlanReaches: laid · PlanCovers: laid · DirectApplies: laid · DirectComposes: laid · DirectFlat: laid · DirectNever: laid.
  DERIVED. THE GIVEN ROWS OF THIS SEAT. 9 by the template 'for every input the law returns true; each argument reads behind the call as it read before'; 0 by the template 'total and deterministic' (their statements: YtpondkggmcmpfaaGreatDoorTotals.lean).
  GIVEN WITH THE SEED: the statements are not yours to turn. If you find one false, say at which input.
  Laid BY PROGRAM, IN A SANDBOX (cutbox-rows.mjs): the forced cells as the released guide's own fill.sh prints them over the translation c4072d393b636866… (all of the seat's roots in one cut). By AI agents, Wed Nov 11 2026. No macro, syntax, notation, axiom, sorry.
-/
import Derived.Test.YtpondkggmcmpfaaGreatDoorChecked
import GoSem.Claim
import GoSem.ClaimJoined
import GoSem.ClaimMapViews
import Derived.JoinedTies
import Derived.KernelRfl
namespace Go.Proofs.YtpondkggmcmpfaaGreatDoor
/- THE CELL 'sum', in the pinned program and in every row, IS THE sha256 OF THE DUMP (.gsa) THAT YtpondkggmcmpfaaGreatDoorProg.lean LOADS. Nothing in Lean hashes anything: it is a label: what it is worth is what the hold of that sum in a sandbox is worth. -/
noncomputable def Tryz.pinned : Pinned := { name := "ytpondkggmcmpfaagreatdoor", sum := "c4072d393b636866875110a502f5f2824a4c52731a834ffe880340a2a01e5cba", checked := Tryz.checked }
namespace Rows
def none {H : Type} : Left H := { results := [], args := [] }

/- WHAT THE LISTED PACKAGE-LEVEL VARIABLES READ AS WHEN THE CALL BEGINS. Each datum BY PROGRAM (the guide's laid-datum.mjs) off the statement by which the dump's own 'gosem.cut.vars' lays the variable. In a bare row this is a premise. The card (YtpondkggmcmpfaaGreatDoorCards.lean) ties it to the program's text. -/
def laid_smalto_border_names {H : Type} : DataW H := .slice [.lit (.string [99, 108, 97, 109, 112]), .lit (.string [109, 105, 114, 114, 111, 114]), .lit (.string [119, 114, 97, 112])] []
def laid_smalto_raw_kinds {H : Type} : DataW H := .agg [.agg [.lit (.string [98, 111, 120]), .lit (.int .i64 0)], .agg [.lit (.string [99, 117, 98, 105, 99]), .lit (.int .i64 2)], .agg [.lit (.string [108, 97, 110, 99, 122, 111, 115]), .lit (.int .i64 3)]]

/-- 'smaltolaw12.OpAll': WHATEVER THE INPUT: true; the input reads as it did. -/
def opAllSpec : ChangeSpec := { name := "opAll", fn := fun _ => fun
  | [d1, d2, d3, d4] => { results := [.lit (.bool true)], args := [d1, d2, d3, d4] }
  | _ => none }
def opAllRow : OpenClaim := { program := "ytpondkggmcmpfaagreatdoor", sum := "c4072d393b636866875110a502f5f2824a4c52731a834ffe880340a2a01e5cba", func := "smalto/smaltolaw12.OpAll", spec := "opAll", inPlace := ["math/bits.Add64"], unfollowed := true, recurses := true, named := ["smalto/border.names", "smalto/raw.kinds", "math/bits.divideError", "math/bits.overflowError"], plainKeys := false, apart := false, laid := [("smalto/border.names", laid_smalto_border_names), ("smalto/raw.kinds", laid_smalto_raw_kinds)] }
def OpAllSaid : Prop := opAllRow.holds Tryz.pinned (OpenSpec.ofChange opAllSpec)

/-- ITS FALSE NEIGHBOUR: 'it returns false'. Refute it at one input. -/
def opAllWrong : ChangeSpec := { name := "opAll", fn := fun _ => fun
  | [d1, d2, d3, d4] => { results := [.lit (.bool false)], args := [d1, d2, d3, d4] }
  | _ => none }
def OpAllWrongFalsely : Prop := opAllRow.holds Tryz.pinned (OpenSpec.ofChange opAllWrong)

/-- 'smaltolaw14.PlanAll': WHATEVER THE INPUT: true; the input reads as it did. -/
def planAllSpec : ChangeSpec := { name := "planAll", fn := fun _ => fun
  | [d1, d2, d3, d4, d5] => { results := [.lit (.bool true)], args := [d1, d2, d3, d4, d5] }
  | _ => none }
def planAllRow : OpenClaim := { program := "ytpondkggmcmpfaagreatdoor", sum := "c4072d393b636866875110a502f5f2824a4c52731a834ffe880340a2a01e5cba", func := "smalto/smaltolaw14.PlanAll", spec := "planAll", inPlace := ["math/bits.Add64"], unfollowed := true, recurses := true, named := ["smalto/border.names", "smalto/raw.kinds", "math/bits.divideError", "math/bits.overflowError"], plainKeys := false, apart := false, laid := [("smalto/border.names", laid_smalto_border_names), ("smalto/raw.kinds", laid_smalto_raw_kinds)] }
def PlanAllSaid : Prop := planAllRow.holds Tryz.pinned (OpenSpec.ofChange planAllSpec)

/-- ITS FALSE NEIGHBOUR: 'it returns false'. Refute it at one input. -/
def planAllWrong : ChangeSpec := { name := "planAll", fn := fun _ => fun
  | [d1, d2, d3, d4, d5] => { results := [.lit (.bool false)], args := [d1, d2, d3, d4, d5] }
  | _ => none }
def PlanAllWrongFalsely : Prop := planAllRow.holds Tryz.pinned (OpenSpec.ofChange planAllWrong)

/-- 'smaltolaw14.PlanTiles': WHATEVER THE INPUT: true; the input reads as it did. -/
def planTilesSpec : ChangeSpec := { name := "planTiles", fn := fun _ => fun
  | [d1, d2, d3, d4, d5, d6] => { results := [.lit (.bool true)], args := [d1, d2, d3, d4, d5, d6] }
  | _ => none }
def planTilesRow : OpenClaim := { program := "ytpondkggmcmpfaagreatdoor", sum := "c4072d393b636866875110a502f5f2824a4c52731a834ffe880340a2a01e5cba", func := "smalto/smaltolaw14.PlanTiles", spec := "planTiles", inPlace := ["math/bits.Add64"], unfollowed := true, recurses := true, named := ["smalto/border.names", "smalto/raw.kinds", "math/bits.divideError", "math/bits.overflowError"], plainKeys := false, apart := false, laid := [("smalto/border.names", laid_smalto_border_names), ("smalto/raw.kinds", laid_smalto_raw_kinds)] }
def PlanTilesSaid : Prop := planTilesRow.holds Tryz.pinned (OpenSpec.ofChange planTilesSpec)

/-- ITS FALSE NEIGHBOUR: 'it returns false'. Refute it at one input. -/
def planTilesWrong : ChangeSpec := { name := "planTiles", fn := fun _ => fun
  | [d1, d2, d3, d4, d5, d6] => { results := [.lit (.bool false)], args := [d1, d2, d3, d4, d5, d6] }
  | _ => none }
def PlanTilesWrongFalsely : Prop := planTilesRow.holds Tryz.pinned (OpenSpec.ofChange planTilesWrong)

/-- 'smaltolaw14.PlanReaches': WHATEVER THE INPUT: true; the input reads as it did. -/
def planReachesSpec : ChangeSpec := { name := "planReaches", fn := fun _ => fun
  | [d1, d2, d3, d4, d5, d6] => { results := [.lit (.bool true)], args := [d1, d2, d3, d4, d5, d6] }
  | _ => none }
def planReachesRow : OpenClaim := { program := "ytpondkggmcmpfaagreatdoor", sum := "c4072d393b636866875110a502f5f2824a4c52731a834ffe880340a2a01e5cba", func := "smalto/smaltolaw14.PlanReaches", spec := "planReaches", inPlace := ["math/bits.Add64"], unfollowed := true, recurses := true, named := ["smalto/border.names", "smalto/raw.kinds", "math/bits.divideError", "math/bits.overflowError"], plainKeys := false, apart := false, laid := [("smalto/border.names", laid_smalto_border_names), ("smalto/raw.kinds", laid_smalto_raw_kinds)] }
def PlanReachesSaid : Prop := planReachesRow.holds Tryz.pinned (OpenSpec.ofChange planReachesSpec)

/-- ITS FALSE NEIGHBOUR: 'it returns false'. Refute it at one input. -/
def planReachesWrong : ChangeSpec := { name := "planReaches", fn := fun _ => fun
  | [d1, d2, d3, d4, d5, d6] => { results := [.lit (.bool false)], args := [d1, d2, d3, d4, d5, d6] }
  | _ => none }
def PlanReachesWrongFalsely : Prop := planReachesRow.holds Tryz.pinned (OpenSpec.ofChange planReachesWrong)

/-- 'smaltolaw14.PlanCovers': WHATEVER THE INPUT: true; the input reads as it did. -/
def planCoversSpec : ChangeSpec := { name := "planCovers", fn := fun _ => fun
  | [d1, d2, d3, d4, d5, d6, d7] => { results := [.lit (.bool true)], args := [d1, d2, d3, d4, d5, d6, d7] }
  | _ => none }
def planCoversRow : OpenClaim := { program := "ytpondkggmcmpfaagreatdoor", sum := "c4072d393b636866875110a502f5f2824a4c52731a834ffe880340a2a01e5cba", func := "smalto/smaltolaw14.PlanCovers", spec := "planCovers", inPlace := ["math/bits.Add64"], unfollowed := true, recurses := true, named := ["smalto/border.names", "smalto/raw.kinds", "math/bits.divideError", "math/bits.overflowError"], plainKeys := false, apart := false, laid := [("smalto/border.names", laid_smalto_border_names), ("smalto/raw.kinds", laid_smalto_raw_kinds)] }
def PlanCoversSaid : Prop := planCoversRow.holds Tryz.pinned (OpenSpec.ofChange planCoversSpec)

/-- ITS FALSE NEIGHBOUR: 'it returns false'. Refute it at one input. -/
def planCoversWrong : ChangeSpec := { name := "planCovers", fn := fun _ => fun
  | [d1, d2, d3, d4, d5, d6, d7] => { results := [.lit (.bool false)], args := [d1, d2, d3, d4, d5, d6, d7] }
  | _ => none }
def PlanCoversWrongFalsely : Prop := planCoversRow.holds Tryz.pinned (OpenSpec.ofChange planCoversWrong)

/-- 'smaltolaw15.DirectApplies': WHATEVER THE INPUT: true; the input reads as it did. -/
def directAppliesSpec : ChangeSpec := { name := "directApplies", fn := fun _ => fun
  | [d1, d2, d3, d4, d5] => { results := [.lit (.bool true)], args := [d1, d2, d3, d4, d5] }
  | _ => none }
def directAppliesRow : OpenClaim := { program := "ytpondkggmcmpfaagreatdoor", sum := "c4072d393b636866875110a502f5f2824a4c52731a834ffe880340a2a01e5cba", func := "smalto/smaltolaw15.DirectApplies", spec := "directApplies", inPlace := ["math/bits.Add64"], unfollowed := true, recurses := true, named := ["smalto/border.names", "smalto/raw.kinds", "math/bits.divideError", "math/bits.overflowError"], plainKeys := false, apart := false, laid := [("smalto/border.names", laid_smalto_border_names), ("smalto/raw.kinds", laid_smalto_raw_kinds)] }
def DirectAppliesSaid : Prop := directAppliesRow.holds Tryz.pinned (OpenSpec.ofChange directAppliesSpec)

/-- ITS FALSE NEIGHBOUR: 'it returns false'. Refute it at one input. -/
def directAppliesWrong : ChangeSpec := { name := "directApplies", fn := fun _ => fun
  | [d1, d2, d3, d4, d5] => { results := [.lit (.bool false)], args := [d1, d2, d3, d4, d5] }
  | _ => none }
def DirectAppliesWrongFalsely : Prop := directAppliesRow.holds Tryz.pinned (OpenSpec.ofChange directAppliesWrong)

/-- 'smaltolaw15.DirectComposes': WHATEVER THE INPUT: true; the input reads as it did. -/
def directComposesSpec : ChangeSpec := { name := "directComposes", fn := fun _ => fun
  | [d1, d2] => { results := [.lit (.bool true)], args := [d1, d2] }
  | _ => none }
def directComposesRow : OpenClaim := { program := "ytpondkggmcmpfaagreatdoor", sum := "c4072d393b636866875110a502f5f2824a4c52731a834ffe880340a2a01e5cba", func := "smalto/smaltolaw15.DirectComposes", spec := "directComposes", inPlace := ["math/bits.Add64"], unfollowed := true, recurses := true, named := ["smalto/border.names", "smalto/raw.kinds", "math/bits.divideError", "math/bits.overflowError"], plainKeys := false, apart := false, laid := [("smalto/border.names", laid_smalto_border_names), ("smalto/raw.kinds", laid_smalto_raw_kinds)] }
def DirectComposesSaid : Prop := directComposesRow.holds Tryz.pinned (OpenSpec.ofChange directComposesSpec)

/-- ITS FALSE NEIGHBOUR: 'it returns false'. Refute it at one input. -/
def directComposesWrong : ChangeSpec := { name := "directComposes", fn := fun _ => fun
  | [d1, d2] => { results := [.lit (.bool false)], args := [d1, d2] }
  | _ => none }
def DirectComposesWrongFalsely : Prop := directComposesRow.holds Tryz.pinned (OpenSpec.ofChange directComposesWrong)

/-- 'smaltolaw15.DirectFlat': WHATEVER THE INPUT: true; the input reads as it did. -/
def directFlatSpec : ChangeSpec := { name := "directFlat", fn := fun _ => fun
  | [d1, d2, d3] => { results := [.lit (.bool true)], args := [d1, d2, d3] }
  | _ => none }
def directFlatRow : OpenClaim := { program := "ytpondkggmcmpfaagreatdoor", sum := "c4072d393b636866875110a502f5f2824a4c52731a834ffe880340a2a01e5cba", func := "smalto/smaltolaw15.DirectFlat", spec := "directFlat", inPlace := ["math/bits.Add64"], unfollowed := true, recurses := true, named := ["smalto/border.names", "smalto/raw.kinds", "math/bits.divideError", "math/bits.overflowError"], plainKeys := false, apart := false, laid := [("smalto/border.names", laid_smalto_border_names), ("smalto/raw.kinds", laid_smalto_raw_kinds)] }
def DirectFlatSaid : Prop := directFlatRow.holds Tryz.pinned (OpenSpec.ofChange directFlatSpec)

/-- ITS FALSE NEIGHBOUR: 'it returns false'. Refute it at one input. -/
def directFlatWrong : ChangeSpec := { name := "directFlat", fn := fun _ => fun
  | [d1, d2, d3] => { results := [.lit (.bool false)], args := [d1, d2, d3] }
  | _ => none }
def DirectFlatWrongFalsely : Prop := directFlatRow.holds Tryz.pinned (OpenSpec.ofChange directFlatWrong)

/-- 'smaltolaw15.DirectNever': WHATEVER THE INPUT: true; the input reads as it did. -/
def directNeverSpec : ChangeSpec := { name := "directNever", fn := fun _ => fun
  | [d1, d2] => { results := [.lit (.bool true)], args := [d1, d2] }
  | _ => none }
def directNeverRow : OpenClaim := { program := "ytpondkggmcmpfaagreatdoor", sum := "c4072d393b636866875110a502f5f2824a4c52731a834ffe880340a2a01e5cba", func := "smalto/smaltolaw15.DirectNever", spec := "directNever", inPlace := ["math/bits.Add64"], unfollowed := true, recurses := true, named := ["smalto/border.names", "smalto/raw.kinds", "math/bits.divideError", "math/bits.overflowError"], plainKeys := false, apart := false, laid := [("smalto/border.names", laid_smalto_border_names), ("smalto/raw.kinds", laid_smalto_raw_kinds)] }
def DirectNeverSaid : Prop := directNeverRow.holds Tryz.pinned (OpenSpec.ofChange directNeverSpec)

/-- ITS FALSE NEIGHBOUR: 'it returns false'. Refute it at one input. -/
def directNeverWrong : ChangeSpec := { name := "directNever", fn := fun _ => fun
  | [d1, d2] => { results := [.lit (.bool false)], args := [d1, d2] }
  | _ => none }
def DirectNeverWrongFalsely : Prop := directNeverRow.holds Tryz.pinned (OpenSpec.ofChange directNeverWrong)

/- THE SECOND FORM. 'bulk': how many values and letters a reading holds, each counted each time it is reached (what is shared counts as often as it is met; a slice's spare places count too). A statement '..UptoSaid' is the law's where the arguments, and the package variables that the reading takes, are together of bulk at most 1048576: NARROWER than '..Said'. Prove '..Said' where nothing that the law and all that it calls make is longer than what came in: it says more and counts as full. Else prove '..UptoSaid'. A law counts once. -/
mutual
def uptoBulk {H : Type} : DataW H → Nat
  | .lit (.string bytes) => bytes.length + 1
  | .lit _ => 1
  | .nil => 1
  | .ptr d => uptoBulk d + 1
  | .slice elems spare => uptoBulkAll elems + uptoBulkAll spare + 1
  | .agg parts => uptoBulkAll parts + 1
  | .iface _ d => uptoBulk d + 1
  | .map entries => uptoBulkEntries entries + 1
  | .held _ => 1
def uptoBulkAll {H : Type} : List (DataW H) → Nat
  | [] => 0
  | d :: r => uptoBulk d + uptoBulkAll r
def uptoBulkEntries {H : Type} : List (Lit × DataW H) → Nat
  | [] => 0
  | x :: r => uptoBulkEntry x + uptoBulkEntries r
def uptoBulkEntry {H : Type} : Lit × DataW H → Nat
  | (.string bytes, d) => bytes.length + uptoBulk d + 1
  | (_, d) => uptoBulk d + 1
 end
def uptoSmall : (H : Type) → List (DataW H) → Bool := fun _ ds => decide (uptoBulkAll ds ≤ 1048576)
def OpenSpec.upto (s : _root_.Go.ChangeSpec) : _root_.Go.OpenSpec := { _root_.Go.OpenSpec.ofChange s with cond := some uptoSmall }

/-- 'smaltolaw12.OpAll', WHERE WHAT IT READS IS OF BULK AT MOST 1048576: true; the input reads as it did. -/
def opAllUptoRow : OpenClaim := { program := "ytpondkggmcmpfaagreatdoor", sum := "c4072d393b636866875110a502f5f2824a4c52731a834ffe880340a2a01e5cba", func := "smalto/smaltolaw12.OpAll", spec := "opAll", inPlace := ["math/bits.Add64"], unfollowed := true, recurses := true, named := ["smalto/border.names", "smalto/raw.kinds", "math/bits.divideError", "math/bits.overflowError"], plainKeys := false, apart := false, laid := [("smalto/border.names", laid_smalto_border_names), ("smalto/raw.kinds", laid_smalto_raw_kinds)], narrowed := true }
def OpAllUptoSaid : Prop := opAllUptoRow.holds Tryz.pinned (OpenSpec.upto opAllSpec)

/-- 'smaltolaw14.PlanAll', WHERE WHAT IT READS IS OF BULK AT MOST 1048576: true; the input reads as it did. -/
def planAllUptoRow : OpenClaim := { program := "ytpondkggmcmpfaagreatdoor", sum := "c4072d393b636866875110a502f5f2824a4c52731a834ffe880340a2a01e5cba", func := "smalto/smaltolaw14.PlanAll", spec := "planAll", inPlace := ["math/bits.Add64"], unfollowed := true, recurses := true, named := ["smalto/border.names", "smalto/raw.kinds", "math/bits.divideError", "math/bits.overflowError"], plainKeys := false, apart := false, laid := [("smalto/border.names", laid_smalto_border_names), ("smalto/raw.kinds", laid_smalto_raw_kinds)], narrowed := true }
def PlanAllUptoSaid : Prop := planAllUptoRow.holds Tryz.pinned (OpenSpec.upto planAllSpec)

/-- 'smaltolaw14.PlanTiles', WHERE WHAT IT READS IS OF BULK AT MOST 1048576: true; the input reads as it did. -/
def planTilesUptoRow : OpenClaim := { program := "ytpondkggmcmpfaagreatdoor", sum := "c4072d393b636866875110a502f5f2824a4c52731a834ffe880340a2a01e5cba", func := "smalto/smaltolaw14.PlanTiles", spec := "planTiles", inPlace := ["math/bits.Add64"], unfollowed := true, recurses := true, named := ["smalto/border.names", "smalto/raw.kinds", "math/bits.divideError", "math/bits.overflowError"], plainKeys := false, apart := false, laid := [("smalto/border.names", laid_smalto_border_names), ("smalto/raw.kinds", laid_smalto_raw_kinds)], narrowed := true }
def PlanTilesUptoSaid : Prop := planTilesUptoRow.holds Tryz.pinned (OpenSpec.upto planTilesSpec)

/-- 'smaltolaw14.PlanReaches', WHERE WHAT IT READS IS OF BULK AT MOST 1048576: true; the input reads as it did. -/
def planReachesUptoRow : OpenClaim := { program := "ytpondkggmcmpfaagreatdoor", sum := "c4072d393b636866875110a502f5f2824a4c52731a834ffe880340a2a01e5cba", func := "smalto/smaltolaw14.PlanReaches", spec := "planReaches", inPlace := ["math/bits.Add64"], unfollowed := true, recurses := true, named := ["smalto/border.names", "smalto/raw.kinds", "math/bits.divideError", "math/bits.overflowError"], plainKeys := false, apart := false, laid := [("smalto/border.names", laid_smalto_border_names), ("smalto/raw.kinds", laid_smalto_raw_kinds)], narrowed := true }
def PlanReachesUptoSaid : Prop := planReachesUptoRow.holds Tryz.pinned (OpenSpec.upto planReachesSpec)

/-- 'smaltolaw14.PlanCovers', WHERE WHAT IT READS IS OF BULK AT MOST 1048576: true; the input reads as it did. -/
def planCoversUptoRow : OpenClaim := { program := "ytpondkggmcmpfaagreatdoor", sum := "c4072d393b636866875110a502f5f2824a4c52731a834ffe880340a2a01e5cba", func := "smalto/smaltolaw14.PlanCovers", spec := "planCovers", inPlace := ["math/bits.Add64"], unfollowed := true, recurses := true, named := ["smalto/border.names", "smalto/raw.kinds", "math/bits.divideError", "math/bits.overflowError"], plainKeys := false, apart := false, laid := [("smalto/border.names", laid_smalto_border_names), ("smalto/raw.kinds", laid_smalto_raw_kinds)], narrowed := true }
def PlanCoversUptoSaid : Prop := planCoversUptoRow.holds Tryz.pinned (OpenSpec.upto planCoversSpec)

/-- 'smaltolaw15.DirectApplies', WHERE WHAT IT READS IS OF BULK AT MOST 1048576: true; the input reads as it did. -/
def directAppliesUptoRow : OpenClaim := { program := "ytpondkggmcmpfaagreatdoor", sum := "c4072d393b636866875110a502f5f2824a4c52731a834ffe880340a2a01e5cba", func := "smalto/smaltolaw15.DirectApplies", spec := "directApplies", inPlace := ["math/bits.Add64"], unfollowed := true, recurses := true, named := ["smalto/border.names", "smalto/raw.kinds", "math/bits.divideError", "math/bits.overflowError"], plainKeys := false, apart := false, laid := [("smalto/border.names", laid_smalto_border_names), ("smalto/raw.kinds", laid_smalto_raw_kinds)], narrowed := true }
def DirectAppliesUptoSaid : Prop := directAppliesUptoRow.holds Tryz.pinned (OpenSpec.upto directAppliesSpec)

/-- 'smaltolaw15.DirectComposes', WHERE WHAT IT READS IS OF BULK AT MOST 1048576: true; the input reads as it did. -/
def directComposesUptoRow : OpenClaim := { program := "ytpondkggmcmpfaagreatdoor", sum := "c4072d393b636866875110a502f5f2824a4c52731a834ffe880340a2a01e5cba", func := "smalto/smaltolaw15.DirectComposes", spec := "directComposes", inPlace := ["math/bits.Add64"], unfollowed := true, recurses := true, named := ["smalto/border.names", "smalto/raw.kinds", "math/bits.divideError", "math/bits.overflowError"], plainKeys := false, apart := false, laid := [("smalto/border.names", laid_smalto_border_names), ("smalto/raw.kinds", laid_smalto_raw_kinds)], narrowed := true }
def DirectComposesUptoSaid : Prop := directComposesUptoRow.holds Tryz.pinned (OpenSpec.upto directComposesSpec)

/-- 'smaltolaw15.DirectFlat', WHERE WHAT IT READS IS OF BULK AT MOST 1048576: true; the input reads as it did. -/
def directFlatUptoRow : OpenClaim := { program := "ytpondkggmcmpfaagreatdoor", sum := "c4072d393b636866875110a502f5f2824a4c52731a834ffe880340a2a01e5cba", func := "smalto/smaltolaw15.DirectFlat", spec := "directFlat", inPlace := ["math/bits.Add64"], unfollowed := true, recurses := true, named := ["smalto/border.names", "smalto/raw.kinds", "math/bits.divideError", "math/bits.overflowError"], plainKeys := false, apart := false, laid := [("smalto/border.names", laid_smalto_border_names), ("smalto/raw.kinds", laid_smalto_raw_kinds)], narrowed := true }
def DirectFlatUptoSaid : Prop := directFlatUptoRow.holds Tryz.pinned (OpenSpec.upto directFlatSpec)

/-- 'smaltolaw15.DirectNever', WHERE WHAT IT READS IS OF BULK AT MOST 1048576: true; the input reads as it did. -/
def directNeverUptoRow : OpenClaim := { program := "ytpondkggmcmpfaagreatdoor", sum := "c4072d393b636866875110a502f5f2824a4c52731a834ffe880340a2a01e5cba", func := "smalto/smaltolaw15.DirectNever", spec := "directNever", inPlace := ["math/bits.Add64"], unfollowed := true, recurses := true, named := ["smalto/border.names", "smalto/raw.kinds", "math/bits.divideError", "math/bits.overflowError"], plainKeys := false, apart := false, laid := [("smalto/border.names", laid_smalto_border_names), ("smalto/raw.kinds", laid_smalto_raw_kinds)], narrowed := true }
def DirectNeverUptoSaid : Prop := directNeverUptoRow.holds Tryz.pinned (OpenSpec.upto directNeverSpec)

end Rows
end Go.Proofs.YtpondkggmcmpfaaGreatDoor
