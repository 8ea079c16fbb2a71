/-
  NARROWER THAN 'FOR EVERY INPUT', by the rows' own cells (each row's printed sentence says how): RawBox: laid · RawMirror: laid · RawKeys: laid · RawNames: laid · RawRows: laid · SincNear: laid · SincLanczos: laid.
  DERIVED. THE GIVEN ROWS OF THIS SEAT. 7 by the template 'for every input the law returns true; each argument reads behind the call as it read before'; 0 by the template 'total and deterministic' (their statements: YtbkbgpileogehaaDoorTotals.lean).
  GIVEN WITH THE SEED: the statements are not yours to turn. If you find one false, say at which input.
  Laid BY PROGRAM, IN A SANDBOX (cutbox-rows.mjs): the forced cells as the released guide's own fill.sh prints them over the translation 27965474c8f9b778… (all of the seat's roots in one cut). By AI agents, Wed Nov 11 2026. No macro, syntax, notation, axiom, sorry.
-/
import Derived.Test.YtbkbgpileogehaaDoorChecked
import GoSem.Claim
import GoSem.ClaimJoined
import GoSem.ClaimMapViews
import Derived.JoinedTies
import Derived.KernelRfl
namespace Go.Proofs.YtbkbgpileogehaaDoor
/- THE CELL 'sum', in the pinned program and in every row, IS THE sha256 OF THE DUMP (.gsa) THAT YtbkbgpileogehaaDoorProg.lean LOADS. Nothing in Lean hashes anything: it is a label: what it is worth is what the hold of that sum in a sandbox is worth. -/
noncomputable def Tryd.pinned : Pinned := { name := "ytbkbgpileogehaadoor", sum := "27965474c8f9b778dd0efc1c92db40fff1ed6c68e256bd61decbdb841b1622b5", checked := Tryd.checked }
namespace Rows
def none {H : Type} : Left H := { results := [], args := [] }

/- WHAT THE LISTED PACKAGE-LEVEL VARIABLES READ AS WHEN THE CALL BEGINS. Each datum BY PROGRAM (the guide's laid-datum.mjs) off the statement by which the dump's own 'gosem.cut.vars' lays the variable. In a bare row this is a premise. The card (YtbkbgpileogehaaDoorCards.lean) ties it to the program's text. -/
def laid_smalto_raw_kinds {H : Type} : DataW H := .agg [.agg [.lit (.string [98, 111, 120]), .lit (.int .i64 0)], .agg [.lit (.string [99, 117, 98, 105, 99]), .lit (.int .i64 2)], .agg [.lit (.string [108, 97, 110, 99, 122, 111, 115]), .lit (.int .i64 3)]]
def laid_math_sin {H : Type} : DataW H := .agg [.lit (.float .f64 4460209587652500685), .lit (.float .f64 13716528389658582877), .lit (.float .f64 4523617212962785441), .lit (.float .f64 13774824197404483331), .lit (.float .f64 4575957461383575504), .lit (.float .f64 13818544856648471880)]
def laid_math_cos {H : Type} : DataW H := .agg [.lit (.float .f64 13666448263388469915), .lit (.float .f64 4477121864728985349), .lit (.float .f64 13732177093698800582), .lit (.float .f64 4537941361668146421), .lit (.float .f64 13787419979223748497), .lit (.float .f64 4586165620538955083)]
def laid_math_mPi4 {H : Type} : DataW H := .agg [.lit (.int .u64 1), .lit (.int .u64 5040379952546458195), .lit (.int .u64 17892431488136887169), .lit (.int .u64 13169980181085364355), .lit (.int .u64 18204331823439776451), .lit (.int .u64 7946843935494350272), .lit (.int .u64 905889640498799673), .lit (.int .u64 18175356263134875261), .lit (.int .u64 15061281708168349961), .lit (.int .u64 15220161563773041794), .lit (.int .u64 8296664548579374057), .lit (.int .u64 4109744767560208502), .lit (.int .u64 4607516669194743839), .lit (.int .u64 16023283104648321598), .lit (.int .u64 15739233654134936430), .lit (.int .u64 11424645774684705882), .lit (.int .u64 16883842788696515318), .lit (.int .u64 8795094592981902804), .lit (.int .u64 15561835991111744016), .lit (.int .u64 12395701187267450711)]

/-- 'smaltolaw05.RawBox': WHATEVER THE INPUT: true; the input reads as it did. -/
def rawBoxSpec : ChangeSpec := { name := "rawBox", fn := fun _ => fun
  | [d1, d2, d3] => { results := [.lit (.bool true)], args := [d1, d2, d3] }
  | _ => none }
def rawBoxRow : OpenClaim := { program := "ytbkbgpileogehaadoor", sum := "27965474c8f9b778dd0efc1c92db40fff1ed6c68e256bd61decbdb841b1622b5", func := "smalto/smaltolaw05.RawBox", spec := "rawBox", inPlace := ["math/bits.Add64"], named := ["smalto/raw.kinds", "math/bits.divideError", "math/bits.overflowError"], apart := false, laid := [("smalto/raw.kinds", laid_smalto_raw_kinds)] }
def RawBoxSaid : Prop := rawBoxRow.holds Tryd.pinned (OpenSpec.ofChange rawBoxSpec)

/-- ITS FALSE NEIGHBOUR: 'it returns false'. Refute it at one input. -/
def rawBoxWrong : ChangeSpec := { name := "rawBox", fn := fun _ => fun
  | [d1, d2, d3] => { results := [.lit (.bool false)], args := [d1, d2, d3] }
  | _ => none }
def RawBoxWrongFalsely : Prop := rawBoxRow.holds Tryd.pinned (OpenSpec.ofChange rawBoxWrong)

/-- 'smaltolaw05.RawMirror': WHATEVER THE INPUT: true; the input reads as it did. -/
def rawMirrorSpec : ChangeSpec := { name := "rawMirror", fn := fun _ => fun
  | [d1, d2, d3, d4] => { results := [.lit (.bool true)], args := [d1, d2, d3, d4] }
  | _ => none }
def rawMirrorRow : OpenClaim := { program := "ytbkbgpileogehaadoor", sum := "27965474c8f9b778dd0efc1c92db40fff1ed6c68e256bd61decbdb841b1622b5", func := "smalto/smaltolaw05.RawMirror", spec := "rawMirror", inPlace := ["math/bits.Add64"], named := ["smalto/raw.kinds", "math/bits.divideError", "math/bits.overflowError"], apart := false, laid := [("smalto/raw.kinds", laid_smalto_raw_kinds)] }
def RawMirrorSaid : Prop := rawMirrorRow.holds Tryd.pinned (OpenSpec.ofChange rawMirrorSpec)

/-- ITS FALSE NEIGHBOUR: 'it returns false'. Refute it at one input. -/
def rawMirrorWrong : ChangeSpec := { name := "rawMirror", fn := fun _ => fun
  | [d1, d2, d3, d4] => { results := [.lit (.bool false)], args := [d1, d2, d3, d4] }
  | _ => none }
def RawMirrorWrongFalsely : Prop := rawMirrorRow.holds Tryd.pinned (OpenSpec.ofChange rawMirrorWrong)

/-- 'smaltolaw05.RawKeys': WHATEVER THE INPUT: true; the input reads as it did. -/
def rawKeysSpec : ChangeSpec := { name := "rawKeys", fn := fun _ => fun
  | [d1, d2] => { results := [.lit (.bool true)], args := [d1, d2] }
  | _ => none }
def rawKeysRow : OpenClaim := { program := "ytbkbgpileogehaadoor", sum := "27965474c8f9b778dd0efc1c92db40fff1ed6c68e256bd61decbdb841b1622b5", func := "smalto/smaltolaw05.RawKeys", spec := "rawKeys", inPlace := ["math/bits.Add64", "math.Float64bits", "math.Float64frombits"], named := ["smalto/raw.kinds", "math/bits.divideError", "math/bits.overflowError"], apart := false, laid := [("smalto/raw.kinds", laid_smalto_raw_kinds)] }
def RawKeysSaid : Prop := rawKeysRow.holds Tryd.pinned (OpenSpec.ofChange rawKeysSpec)

/-- ITS FALSE NEIGHBOUR: 'it returns false'. Refute it at one input. -/
def rawKeysWrong : ChangeSpec := { name := "rawKeys", fn := fun _ => fun
  | [d1, d2] => { results := [.lit (.bool false)], args := [d1, d2] }
  | _ => none }
def RawKeysWrongFalsely : Prop := rawKeysRow.holds Tryd.pinned (OpenSpec.ofChange rawKeysWrong)

/-- 'smaltolaw05.RawNames': WHATEVER THE INPUT: true; the input reads as it did. -/
def rawNamesSpec : ChangeSpec := { name := "rawNames", fn := fun _ => fun
  | [d] => { results := [.lit (.bool true)], args := [d] }
  | _ => none }
def rawNamesRow : OpenClaim := { program := "ytbkbgpileogehaadoor", sum := "27965474c8f9b778dd0efc1c92db40fff1ed6c68e256bd61decbdb841b1622b5", func := "smalto/smaltolaw05.RawNames", spec := "rawNames", inPlace := ["math/bits.Add64"], named := ["smalto/raw.kinds", "math/bits.divideError", "math/bits.overflowError"], apart := false, laid := [("smalto/raw.kinds", laid_smalto_raw_kinds)] }
def RawNamesSaid : Prop := rawNamesRow.holds Tryd.pinned (OpenSpec.ofChange rawNamesSpec)

/-- ITS FALSE NEIGHBOUR: 'it returns false'. Refute it at one input. -/
def rawNamesWrong : ChangeSpec := { name := "rawNames", fn := fun _ => fun
  | [d] => { results := [.lit (.bool false)], args := [d] }
  | _ => none }
def RawNamesWrongFalsely : Prop := rawNamesRow.holds Tryd.pinned (OpenSpec.ofChange rawNamesWrong)

/-- 'smaltolaw05.RawRows': WHATEVER THE INPUT: true; the input reads as it did. -/
def rawRowsSpec : ChangeSpec := { name := "rawRows", fn := fun _ => fun
  | [d1, d2, d3, d4, d5] => { results := [.lit (.bool true)], args := [d1, d2, d3, d4, d5] }
  | _ => none }
def rawRowsRow : OpenClaim := { program := "ytbkbgpileogehaadoor", sum := "27965474c8f9b778dd0efc1c92db40fff1ed6c68e256bd61decbdb841b1622b5", func := "smalto/smaltolaw05.RawRows", spec := "rawRows", inPlace := ["math/bits.Add64"], named := ["smalto/raw.kinds", "math/bits.divideError", "math/bits.overflowError"], apart := false, laid := [("smalto/raw.kinds", laid_smalto_raw_kinds)] }
def RawRowsSaid : Prop := rawRowsRow.holds Tryd.pinned (OpenSpec.ofChange rawRowsSpec)

/-- ITS FALSE NEIGHBOUR: 'it returns false'. Refute it at one input. -/
def rawRowsWrong : ChangeSpec := { name := "rawRows", fn := fun _ => fun
  | [d1, d2, d3, d4, d5] => { results := [.lit (.bool false)], args := [d1, d2, d3, d4, d5] }
  | _ => none }
def RawRowsWrongFalsely : Prop := rawRowsRow.holds Tryd.pinned (OpenSpec.ofChange rawRowsWrong)

/-- 'smaltolaw04.SincNear': WHATEVER THE INPUT: true; the input reads as it did. -/
def sincNearSpec : ChangeSpec := { name := "sincNear", fn := fun _ => fun
  | [d1, d2] => { results := [.lit (.bool true)], args := [d1, d2] }
  | _ => none }
def sincNearRow : OpenClaim := { program := "ytbkbgpileogehaadoor", sum := "27965474c8f9b778dd0efc1c92db40fff1ed6c68e256bd61decbdb841b1622b5", func := "smalto/smaltolaw04.SincNear", spec := "sincNear", inPlace := ["math/bits.Add64", "math.Float64bits", "math.Float64frombits"], named := ["math/bits.divideError", "math/bits.overflowError", "math._cos", "math._sin", "math.mPi4"], apart := false, laid := [("math._sin", laid_math_sin), ("math._cos", laid_math_cos), ("math.mPi4", laid_math_mPi4)] }
def SincNearSaid : Prop := sincNearRow.holds Tryd.pinned (OpenSpec.ofChange sincNearSpec)

/-- ITS FALSE NEIGHBOUR: 'it returns false'. Refute it at one input. -/
def sincNearWrong : ChangeSpec := { name := "sincNear", fn := fun _ => fun
  | [d1, d2] => { results := [.lit (.bool false)], args := [d1, d2] }
  | _ => none }
def SincNearWrongFalsely : Prop := sincNearRow.holds Tryd.pinned (OpenSpec.ofChange sincNearWrong)

/-- 'smaltolaw04.SincLanczos': WHATEVER THE INPUT: true; the input reads as it did. -/
def sincLanczosSpec : ChangeSpec := { name := "sincLanczos", fn := fun _ => fun
  | [d1, d2] => { results := [.lit (.bool true)], args := [d1, d2] }
  | _ => none }
def sincLanczosRow : OpenClaim := { program := "ytbkbgpileogehaadoor", sum := "27965474c8f9b778dd0efc1c92db40fff1ed6c68e256bd61decbdb841b1622b5", func := "smalto/smaltolaw04.SincLanczos", spec := "sincLanczos", inPlace := ["math/bits.Add64", "math.Float64bits", "math.Float64frombits"], named := ["math/bits.divideError", "math/bits.overflowError", "math._cos", "math._sin", "math.mPi4"], apart := false, laid := [("math._sin", laid_math_sin), ("math._cos", laid_math_cos), ("math.mPi4", laid_math_mPi4)] }
def SincLanczosSaid : Prop := sincLanczosRow.holds Tryd.pinned (OpenSpec.ofChange sincLanczosSpec)

/-- ITS FALSE NEIGHBOUR: 'it returns false'. Refute it at one input. -/
def sincLanczosWrong : ChangeSpec := { name := "sincLanczos", fn := fun _ => fun
  | [d1, d2] => { results := [.lit (.bool false)], args := [d1, d2] }
  | _ => none }
def SincLanczosWrongFalsely : Prop := sincLanczosRow.holds Tryd.pinned (OpenSpec.ofChange sincLanczosWrong)

/- THE SECOND FORM. 'bulk': how many values and letters a reading holds, each counted each time it is reached (what is shared counts as often as it is met; a slice's spare places count too). A statement '..UptoSaid' is the law's where the arguments, and the package variables that the reading takes, are together of bulk at most 1048576: NARROWER than '..Said'. Prove '..Said' where nothing that the law and all that it calls make is longer than what came in: it says more and counts as full. Else prove '..UptoSaid'. A law counts once. -/
mutual
def uptoBulk {H : Type} : DataW H → Nat
  | .lit (.string bytes) => bytes.length + 1
  | .lit _ => 1
  | .nil => 1
  | .ptr d => uptoBulk d + 1
  | .slice elems spare => uptoBulkAll elems + uptoBulkAll spare + 1
  | .agg parts => uptoBulkAll parts + 1
  | .iface _ d => uptoBulk d + 1
  | .map entries => uptoBulkEntries entries + 1
  | .held _ => 1
def uptoBulkAll {H : Type} : List (DataW H) → Nat
  | [] => 0
  | d :: r => uptoBulk d + uptoBulkAll r
def uptoBulkEntries {H : Type} : List (Lit × DataW H) → Nat
  | [] => 0
  | x :: r => uptoBulkEntry x + uptoBulkEntries r
def uptoBulkEntry {H : Type} : Lit × DataW H → Nat
  | (.string bytes, d) => bytes.length + uptoBulk d + 1
  | (_, d) => uptoBulk d + 1
 end
def uptoSmall : (H : Type) → List (DataW H) → Bool := fun _ ds => decide (uptoBulkAll ds ≤ 1048576)
def OpenSpec.upto (s : _root_.Go.ChangeSpec) : _root_.Go.OpenSpec := { _root_.Go.OpenSpec.ofChange s with cond := some uptoSmall }

/-- 'smaltolaw05.RawBox', WHERE WHAT IT READS IS OF BULK AT MOST 1048576: true; the input reads as it did. -/
def rawBoxUptoRow : OpenClaim := { program := "ytbkbgpileogehaadoor", sum := "27965474c8f9b778dd0efc1c92db40fff1ed6c68e256bd61decbdb841b1622b5", func := "smalto/smaltolaw05.RawBox", spec := "rawBox", inPlace := ["math/bits.Add64"], named := ["smalto/raw.kinds", "math/bits.divideError", "math/bits.overflowError"], apart := false, laid := [("smalto/raw.kinds", laid_smalto_raw_kinds)], narrowed := true }
def RawBoxUptoSaid : Prop := rawBoxUptoRow.holds Tryd.pinned (OpenSpec.upto rawBoxSpec)

/-- 'smaltolaw05.RawMirror', WHERE WHAT IT READS IS OF BULK AT MOST 1048576: true; the input reads as it did. -/
def rawMirrorUptoRow : OpenClaim := { program := "ytbkbgpileogehaadoor", sum := "27965474c8f9b778dd0efc1c92db40fff1ed6c68e256bd61decbdb841b1622b5", func := "smalto/smaltolaw05.RawMirror", spec := "rawMirror", inPlace := ["math/bits.Add64"], named := ["smalto/raw.kinds", "math/bits.divideError", "math/bits.overflowError"], apart := false, laid := [("smalto/raw.kinds", laid_smalto_raw_kinds)], narrowed := true }
def RawMirrorUptoSaid : Prop := rawMirrorUptoRow.holds Tryd.pinned (OpenSpec.upto rawMirrorSpec)

/-- 'smaltolaw05.RawKeys', WHERE WHAT IT READS IS OF BULK AT MOST 1048576: true; the input reads as it did. -/
def rawKeysUptoRow : OpenClaim := { program := "ytbkbgpileogehaadoor", sum := "27965474c8f9b778dd0efc1c92db40fff1ed6c68e256bd61decbdb841b1622b5", func := "smalto/smaltolaw05.RawKeys", spec := "rawKeys", inPlace := ["math/bits.Add64", "math.Float64bits", "math.Float64frombits"], named := ["smalto/raw.kinds", "math/bits.divideError", "math/bits.overflowError"], apart := false, laid := [("smalto/raw.kinds", laid_smalto_raw_kinds)], narrowed := true }
def RawKeysUptoSaid : Prop := rawKeysUptoRow.holds Tryd.pinned (OpenSpec.upto rawKeysSpec)

/-- 'smaltolaw05.RawNames', WHERE WHAT IT READS IS OF BULK AT MOST 1048576: true; the input reads as it did. -/
def rawNamesUptoRow : OpenClaim := { program := "ytbkbgpileogehaadoor", sum := "27965474c8f9b778dd0efc1c92db40fff1ed6c68e256bd61decbdb841b1622b5", func := "smalto/smaltolaw05.RawNames", spec := "rawNames", inPlace := ["math/bits.Add64"], named := ["smalto/raw.kinds", "math/bits.divideError", "math/bits.overflowError"], apart := false, laid := [("smalto/raw.kinds", laid_smalto_raw_kinds)], narrowed := true }
def RawNamesUptoSaid : Prop := rawNamesUptoRow.holds Tryd.pinned (OpenSpec.upto rawNamesSpec)

/-- 'smaltolaw05.RawRows', WHERE WHAT IT READS IS OF BULK AT MOST 1048576: true; the input reads as it did. -/
def rawRowsUptoRow : OpenClaim := { program := "ytbkbgpileogehaadoor", sum := "27965474c8f9b778dd0efc1c92db40fff1ed6c68e256bd61decbdb841b1622b5", func := "smalto/smaltolaw05.RawRows", spec := "rawRows", inPlace := ["math/bits.Add64"], named := ["smalto/raw.kinds", "math/bits.divideError", "math/bits.overflowError"], apart := false, laid := [("smalto/raw.kinds", laid_smalto_raw_kinds)], narrowed := true }
def RawRowsUptoSaid : Prop := rawRowsUptoRow.holds Tryd.pinned (OpenSpec.upto rawRowsSpec)

/-- 'smaltolaw04.SincNear', WHERE WHAT IT READS IS OF BULK AT MOST 1048576: true; the input reads as it did. -/
def sincNearUptoRow : OpenClaim := { program := "ytbkbgpileogehaadoor", sum := "27965474c8f9b778dd0efc1c92db40fff1ed6c68e256bd61decbdb841b1622b5", func := "smalto/smaltolaw04.SincNear", spec := "sincNear", inPlace := ["math/bits.Add64", "math.Float64bits", "math.Float64frombits"], named := ["math/bits.divideError", "math/bits.overflowError", "math._cos", "math._sin", "math.mPi4"], apart := false, laid := [("math._sin", laid_math_sin), ("math._cos", laid_math_cos), ("math.mPi4", laid_math_mPi4)], narrowed := true }
def SincNearUptoSaid : Prop := sincNearUptoRow.holds Tryd.pinned (OpenSpec.upto sincNearSpec)

/-- 'smaltolaw04.SincLanczos', WHERE WHAT IT READS IS OF BULK AT MOST 1048576: true; the input reads as it did. -/
def sincLanczosUptoRow : OpenClaim := { program := "ytbkbgpileogehaadoor", sum := "27965474c8f9b778dd0efc1c92db40fff1ed6c68e256bd61decbdb841b1622b5", func := "smalto/smaltolaw04.SincLanczos", spec := "sincLanczos", inPlace := ["math/bits.Add64", "math.Float64bits", "math.Float64frombits"], named := ["math/bits.divideError", "math/bits.overflowError", "math._cos", "math._sin", "math.mPi4"], apart := false, laid := [("math._sin", laid_math_sin), ("math._cos", laid_math_cos), ("math.mPi4", laid_math_mPi4)], narrowed := true }
def SincLanczosUptoSaid : Prop := sincLanczosUptoRow.holds Tryd.pinned (OpenSpec.upto sincLanczosSpec)

end Rows
end Go.Proofs.YtbkbgpileogehaaDoor
