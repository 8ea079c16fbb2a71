/-
  No cell of these rows narrows 'for every input' (looked for: loops, veiled, ifaces, maps, wideKeys, modest, calm, conditions, laid).
  DERIVED. THE GIVEN ROWS OF THIS SEAT. 6 by the template 'for every input the law returns true; each argument reads behind the call as it read before'; 0 by the template 'total and deterministic' (their statements: YtabojpnelbmifaaTotals.lean).
  GIVEN WITH THE SEED: the statements are not yours to turn. If you find one false, say at which input.
  Laid BY PROGRAM, IN A SANDBOX (cutbox-rows.mjs): the forced cells as the released guide's own fill.sh prints them over the translation fdbedf9795019ea2… (all of the seat's roots in one cut). By AI agents, Wed Nov 11 2026. No macro, syntax, notation, axiom, sorry.
-/
import Derived.Test.YtabojpnelbmifaaChecked
import GoSem.Claim
import GoSem.ClaimJoined
import GoSem.ClaimMapViews
import Derived.JoinedTies
import Derived.KernelRfl
namespace Go.Proofs.Ytabojpnelbmifaa
/- THE CELL 'sum', in the pinned program and in every row, IS THE sha256 OF THE DUMP (.gsa) THAT YtabojpnelbmifaaProg.lean LOADS. Nothing in Lean hashes anything: it is a label: what it is worth is what the hold of that sum in a sandbox is worth. -/
noncomputable def Try.pinned : Pinned := { name := "ytabojpnelbmifaa", sum := "fdbedf9795019ea2f47207b239491dd489a3325f142b5abb6f1be164b7c3a5bc", checked := Try.checked }
namespace Rows
def none {H : Type} : Left H := { results := [], args := [] }

/-- 'smaltolaw06.TapsScaled': WHATEVER THE INPUT: true; the input reads as it did. -/
def tapsScaledSpec : ChangeSpec := { name := "tapsScaled", fn := fun _ => fun
  | [d1, d2] => { results := [.lit (.bool true)], args := [d1, d2] }
  | _ => none }
def tapsScaledRow : OpenClaim := { program := "ytabojpnelbmifaa", sum := "fdbedf9795019ea2f47207b239491dd489a3325f142b5abb6f1be164b7c3a5bc", func := "smalto/smaltolaw06.TapsScaled", spec := "tapsScaled", inPlace := ["math/bits.Add64"], unfollowed := true, recurses := true, named := ["math/bits.divideError", "math/bits.overflowError"], apart := false }
def TapsScaledSaid : Prop := tapsScaledRow.holds Try.pinned (OpenSpec.ofChange tapsScaledSpec)

/-- ITS FALSE NEIGHBOUR: 'it returns false'. Refute it at one input. -/
def tapsScaledWrong : ChangeSpec := { name := "tapsScaled", fn := fun _ => fun
  | [d1, d2] => { results := [.lit (.bool false)], args := [d1, d2] }
  | _ => none }
def TapsScaledWrongFalsely : Prop := tapsScaledRow.holds Try.pinned (OpenSpec.ofChange tapsScaledWrong)

/-- 'smaltolaw06.TapsSum': WHATEVER THE INPUT: true; the input reads as it did. -/
def tapsSumSpec : ChangeSpec := { name := "tapsSum", fn := fun _ => fun
  | [d] => { results := [.lit (.bool true)], args := [d] }
  | _ => none }
def tapsSumRow : OpenClaim := { program := "ytabojpnelbmifaa", sum := "fdbedf9795019ea2f47207b239491dd489a3325f142b5abb6f1be164b7c3a5bc", func := "smalto/smaltolaw06.TapsSum", spec := "tapsSum", inPlace := ["math/bits.Add64"], unfollowed := true, recurses := true, named := ["math/bits.divideError", "math/bits.overflowError"], apart := false }
def TapsSumSaid : Prop := tapsSumRow.holds Try.pinned (OpenSpec.ofChange tapsSumSpec)

/-- ITS FALSE NEIGHBOUR: 'it returns false'. Refute it at one input. -/
def tapsSumWrong : ChangeSpec := { name := "tapsSum", fn := fun _ => fun
  | [d] => { results := [.lit (.bool false)], args := [d] }
  | _ => none }
def TapsSumWrongFalsely : Prop := tapsSumRow.holds Try.pinned (OpenSpec.ofChange tapsSumWrong)

/-- 'smaltolaw06.TapsApportion': WHATEVER THE INPUT: true; the input reads as it did. -/
def tapsApportionSpec : ChangeSpec := { name := "tapsApportion", fn := fun _ => fun
  | [d] => { results := [.lit (.bool true)], args := [d] }
  | _ => none }
def tapsApportionRow : OpenClaim := { program := "ytabojpnelbmifaa", sum := "fdbedf9795019ea2f47207b239491dd489a3325f142b5abb6f1be164b7c3a5bc", func := "smalto/smaltolaw06.TapsApportion", spec := "tapsApportion", inPlace := ["math/bits.Add64"], unfollowed := true, recurses := true, named := ["math/bits.divideError", "math/bits.overflowError"], apart := false }
def TapsApportionSaid : Prop := tapsApportionRow.holds Try.pinned (OpenSpec.ofChange tapsApportionSpec)

/-- ITS FALSE NEIGHBOUR: 'it returns false'. Refute it at one input. -/
def tapsApportionWrong : ChangeSpec := { name := "tapsApportion", fn := fun _ => fun
  | [d] => { results := [.lit (.bool false)], args := [d] }
  | _ => none }
def TapsApportionWrongFalsely : Prop := tapsApportionRow.holds Try.pinned (OpenSpec.ofChange tapsApportionWrong)

/-- 'smaltolaw06.TapsUser': WHATEVER THE INPUT: true; the input reads as it did. -/
def tapsUserSpec : ChangeSpec := { name := "tapsUser", fn := fun _ => fun
  | [d] => { results := [.lit (.bool true)], args := [d] }
  | _ => none }
def tapsUserRow : OpenClaim := { program := "ytabojpnelbmifaa", sum := "fdbedf9795019ea2f47207b239491dd489a3325f142b5abb6f1be164b7c3a5bc", func := "smalto/smaltolaw06.TapsUser", spec := "tapsUser", inPlace := ["math/bits.Add64"], unfollowed := true, recurses := true, named := ["math/bits.divideError", "math/bits.overflowError"], apart := false }
def TapsUserSaid : Prop := tapsUserRow.holds Try.pinned (OpenSpec.ofChange tapsUserSpec)

/-- ITS FALSE NEIGHBOUR: 'it returns false'. Refute it at one input. -/
def tapsUserWrong : ChangeSpec := { name := "tapsUser", fn := fun _ => fun
  | [d] => { results := [.lit (.bool false)], args := [d] }
  | _ => none }
def TapsUserWrongFalsely : Prop := tapsUserRow.holds Try.pinned (OpenSpec.ofChange tapsUserWrong)

/-- 'smaltolaw06.TapsEven': WHATEVER THE INPUT: true; the input reads as it did. -/
def tapsEvenSpec : ChangeSpec := { name := "tapsEven", fn := fun _ => fun
  | [d1, d2] => { results := [.lit (.bool true)], args := [d1, d2] }
  | _ => none }
def tapsEvenRow : OpenClaim := { program := "ytabojpnelbmifaa", sum := "fdbedf9795019ea2f47207b239491dd489a3325f142b5abb6f1be164b7c3a5bc", func := "smalto/smaltolaw06.TapsEven", spec := "tapsEven", inPlace := ["math/bits.Add64"], unfollowed := true, recurses := true, named := ["math/bits.divideError", "math/bits.overflowError"], apart := false }
def TapsEvenSaid : Prop := tapsEvenRow.holds Try.pinned (OpenSpec.ofChange tapsEvenSpec)

/-- ITS FALSE NEIGHBOUR: 'it returns false'. Refute it at one input. -/
def tapsEvenWrong : ChangeSpec := { name := "tapsEven", fn := fun _ => fun
  | [d1, d2] => { results := [.lit (.bool false)], args := [d1, d2] }
  | _ => none }
def TapsEvenWrongFalsely : Prop := tapsEvenRow.holds Try.pinned (OpenSpec.ofChange tapsEvenWrong)

/-- 'smaltolaw06.TapsMade': WHATEVER THE INPUT: true; the input reads as it did. -/
def tapsMadeSpec : ChangeSpec := { name := "tapsMade", fn := fun _ => fun
  | [d1, d2] => { results := [.lit (.bool true)], args := [d1, d2] }
  | _ => none }
def tapsMadeRow : OpenClaim := { program := "ytabojpnelbmifaa", sum := "fdbedf9795019ea2f47207b239491dd489a3325f142b5abb6f1be164b7c3a5bc", func := "smalto/smaltolaw06.TapsMade", spec := "tapsMade", inPlace := ["math/bits.Add64"], unfollowed := true, recurses := true, named := ["math/bits.divideError", "math/bits.overflowError"], apart := false }
def TapsMadeSaid : Prop := tapsMadeRow.holds Try.pinned (OpenSpec.ofChange tapsMadeSpec)

/-- ITS FALSE NEIGHBOUR: 'it returns false'. Refute it at one input. -/
def tapsMadeWrong : ChangeSpec := { name := "tapsMade", fn := fun _ => fun
  | [d1, d2] => { results := [.lit (.bool false)], args := [d1, d2] }
  | _ => none }
def TapsMadeWrongFalsely : Prop := tapsMadeRow.holds Try.pinned (OpenSpec.ofChange tapsMadeWrong)

/- THE SECOND FORM. 'bulk': how many values and letters a reading holds, each counted each time it is reached (what is shared counts as often as it is met; a slice's spare places count too). A statement '..UptoSaid' is the law's where the arguments, and the package variables that the reading takes, are together of bulk at most 1048576: NARROWER than '..Said'. Prove '..Said' where nothing that the law and all that it calls make is longer than what came in: it says more and counts as full. Else prove '..UptoSaid'. A law counts once. -/
mutual
def uptoBulk {H : Type} : DataW H → Nat
  | .lit (.string bytes) => bytes.length + 1
  | .lit _ => 1
  | .nil => 1
  | .ptr d => uptoBulk d + 1
  | .slice elems spare => uptoBulkAll elems + uptoBulkAll spare + 1
  | .agg parts => uptoBulkAll parts + 1
  | .iface _ d => uptoBulk d + 1
  | .map entries => uptoBulkEntries entries + 1
  | .held _ => 1
def uptoBulkAll {H : Type} : List (DataW H) → Nat
  | [] => 0
  | d :: r => uptoBulk d + uptoBulkAll r
def uptoBulkEntries {H : Type} : List (Lit × DataW H) → Nat
  | [] => 0
  | x :: r => uptoBulkEntry x + uptoBulkEntries r
def uptoBulkEntry {H : Type} : Lit × DataW H → Nat
  | (.string bytes, d) => bytes.length + uptoBulk d + 1
  | (_, d) => uptoBulk d + 1
 end
def uptoSmall : (H : Type) → List (DataW H) → Bool := fun _ ds => decide (uptoBulkAll ds ≤ 1048576)
def OpenSpec.upto (s : _root_.Go.ChangeSpec) : _root_.Go.OpenSpec := { _root_.Go.OpenSpec.ofChange s with cond := some uptoSmall }

/-- 'smaltolaw06.TapsScaled', WHERE WHAT IT READS IS OF BULK AT MOST 1048576: true; the input reads as it did. -/
def tapsScaledUptoRow : OpenClaim := { program := "ytabojpnelbmifaa", sum := "fdbedf9795019ea2f47207b239491dd489a3325f142b5abb6f1be164b7c3a5bc", func := "smalto/smaltolaw06.TapsScaled", spec := "tapsScaled", inPlace := ["math/bits.Add64"], unfollowed := true, recurses := true, named := ["math/bits.divideError", "math/bits.overflowError"], apart := false, narrowed := true }
def TapsScaledUptoSaid : Prop := tapsScaledUptoRow.holds Try.pinned (OpenSpec.upto tapsScaledSpec)

/-- 'smaltolaw06.TapsSum', WHERE WHAT IT READS IS OF BULK AT MOST 1048576: true; the input reads as it did. -/
def tapsSumUptoRow : OpenClaim := { program := "ytabojpnelbmifaa", sum := "fdbedf9795019ea2f47207b239491dd489a3325f142b5abb6f1be164b7c3a5bc", func := "smalto/smaltolaw06.TapsSum", spec := "tapsSum", inPlace := ["math/bits.Add64"], unfollowed := true, recurses := true, named := ["math/bits.divideError", "math/bits.overflowError"], apart := false, narrowed := true }
def TapsSumUptoSaid : Prop := tapsSumUptoRow.holds Try.pinned (OpenSpec.upto tapsSumSpec)

/-- 'smaltolaw06.TapsApportion', WHERE WHAT IT READS IS OF BULK AT MOST 1048576: true; the input reads as it did. -/
def tapsApportionUptoRow : OpenClaim := { program := "ytabojpnelbmifaa", sum := "fdbedf9795019ea2f47207b239491dd489a3325f142b5abb6f1be164b7c3a5bc", func := "smalto/smaltolaw06.TapsApportion", spec := "tapsApportion", inPlace := ["math/bits.Add64"], unfollowed := true, recurses := true, named := ["math/bits.divideError", "math/bits.overflowError"], apart := false, narrowed := true }
def TapsApportionUptoSaid : Prop := tapsApportionUptoRow.holds Try.pinned (OpenSpec.upto tapsApportionSpec)

/-- 'smaltolaw06.TapsUser', WHERE WHAT IT READS IS OF BULK AT MOST 1048576: true; the input reads as it did. -/
def tapsUserUptoRow : OpenClaim := { program := "ytabojpnelbmifaa", sum := "fdbedf9795019ea2f47207b239491dd489a3325f142b5abb6f1be164b7c3a5bc", func := "smalto/smaltolaw06.TapsUser", spec := "tapsUser", inPlace := ["math/bits.Add64"], unfollowed := true, recurses := true, named := ["math/bits.divideError", "math/bits.overflowError"], apart := false, narrowed := true }
def TapsUserUptoSaid : Prop := tapsUserUptoRow.holds Try.pinned (OpenSpec.upto tapsUserSpec)

/-- 'smaltolaw06.TapsEven', WHERE WHAT IT READS IS OF BULK AT MOST 1048576: true; the input reads as it did. -/
def tapsEvenUptoRow : OpenClaim := { program := "ytabojpnelbmifaa", sum := "fdbedf9795019ea2f47207b239491dd489a3325f142b5abb6f1be164b7c3a5bc", func := "smalto/smaltolaw06.TapsEven", spec := "tapsEven", inPlace := ["math/bits.Add64"], unfollowed := true, recurses := true, named := ["math/bits.divideError", "math/bits.overflowError"], apart := false, narrowed := true }
def TapsEvenUptoSaid : Prop := tapsEvenUptoRow.holds Try.pinned (OpenSpec.upto tapsEvenSpec)

/-- 'smaltolaw06.TapsMade', WHERE WHAT IT READS IS OF BULK AT MOST 1048576: true; the input reads as it did. -/
def tapsMadeUptoRow : OpenClaim := { program := "ytabojpnelbmifaa", sum := "fdbedf9795019ea2f47207b239491dd489a3325f142b5abb6f1be164b7c3a5bc", func := "smalto/smaltolaw06.TapsMade", spec := "tapsMade", inPlace := ["math/bits.Add64"], unfollowed := true, recurses := true, named := ["math/bits.divideError", "math/bits.overflowError"], apart := false, narrowed := true }
def TapsMadeUptoSaid : Prop := tapsMadeUptoRow.holds Try.pinned (OpenSpec.upto tapsMadeSpec)

end Rows
end Go.Proofs.Ytabojpnelbmifaa
