/-
  No cell of these rows narrows 'for every input' (looked for: loops, veiled, ifaces, maps, wideKeys, modest, calm, conditions, laid).
  DERIVED. THE GIVEN ROWS OF THIS SEAT. 6 by the template 'for every input the law returns true; each argument reads behind the call as it read before'; 0 by the template 'total and deterministic' (their statements: YtifkpliahhodoaaGreatTotals.lean).
  GIVEN WITH THE SEED: the statements are not yours to turn. If you find one false, say at which input.
  Laid BY PROGRAM, IN A SANDBOX (cutbox-rows.mjs): the forced cells as the released guide's own fill.sh prints them over the translation 70fb71db4f95d7be… (all of the seat's roots in one cut). By AI agents, Wed Nov 11 2026. No macro, syntax, notation, axiom, sorry.
-/
import Derived.Test.YtifkpliahhodoaaGreatChecked
import GoSem.Claim
import GoSem.ClaimJoined
import GoSem.ClaimMapViews
import Derived.JoinedTies
import Derived.KernelRfl
namespace Go.Proofs.YtifkpliahhodoaaGreat
/- THE CELL 'sum', in the pinned program and in every row, IS THE sha256 OF THE DUMP (.gsa) THAT YtifkpliahhodoaaGreatProg.lean LOADS. Nothing in Lean hashes anything: it is a label: what it is worth is what the hold of that sum in a sandbox is worth. -/
noncomputable def Tryz.pinned : Pinned := { name := "ytifkpliahhodoaagreat", sum := "70fb71db4f95d7be24fcc405b5107a00b6ca0ac5def965712b8ed60a8bc50aa5", checked := Tryz.checked }
namespace Rows
def none {H : Type} : Left H := { results := [], args := [] }

/-- 'laws.FnExactTreeSets': WHATEVER THE INPUT: true; the input reads as it did. -/
def fnExactTreeSetsSpec : ChangeSpec := { name := "fnExactTreeSets", fn := fun _ => fun
  | [d1, d2, d3] => { results := [.lit (.bool true)], args := [d1, d2, d3] }
  | _ => none }
def fnExactTreeSetsRow : OpenClaim := { program := "ytifkpliahhodoaagreat", sum := "70fb71db4f95d7be24fcc405b5107a00b6ca0ac5def965712b8ed60a8bc50aa5", func := "loop.example/wholecheck/laws.FnExactTreeSets", spec := "fnExactTreeSets", inPlace := ["slices.overlaps[[]int]"], unfollowed := true, recurses := true, apart := false }
def FnExactTreeSetsSaid : Prop := fnExactTreeSetsRow.holds Tryz.pinned (OpenSpec.ofChange fnExactTreeSetsSpec)

/-- ITS FALSE NEIGHBOUR: 'it returns false'. Refute it at one input. -/
def fnExactTreeSetsWrong : ChangeSpec := { name := "fnExactTreeSets", fn := fun _ => fun
  | [d1, d2, d3] => { results := [.lit (.bool false)], args := [d1, d2, d3] }
  | _ => none }
def FnExactTreeSetsWrongFalsely : Prop := fnExactTreeSetsRow.holds Tryz.pinned (OpenSpec.ofChange fnExactTreeSetsWrong)

/-- 'laws.FnExactTreeStates': WHATEVER THE INPUT: true; the input reads as it did. -/
def fnExactTreeStatesSpec : ChangeSpec := { name := "fnExactTreeStates", fn := fun _ => fun
  | [d1, d2, d3] => { results := [.lit (.bool true)], args := [d1, d2, d3] }
  | _ => none }
def fnExactTreeStatesRow : OpenClaim := { program := "ytifkpliahhodoaagreat", sum := "70fb71db4f95d7be24fcc405b5107a00b6ca0ac5def965712b8ed60a8bc50aa5", func := "loop.example/wholecheck/laws.FnExactTreeStates", spec := "fnExactTreeStates", inPlace := ["slices.overlaps[[]int]"], unfollowed := true, recurses := true, apart := false }
def FnExactTreeStatesSaid : Prop := fnExactTreeStatesRow.holds Tryz.pinned (OpenSpec.ofChange fnExactTreeStatesSpec)

/-- ITS FALSE NEIGHBOUR: 'it returns false'. Refute it at one input. -/
def fnExactTreeStatesWrong : ChangeSpec := { name := "fnExactTreeStates", fn := fun _ => fun
  | [d1, d2, d3] => { results := [.lit (.bool false)], args := [d1, d2, d3] }
  | _ => none }
def FnExactTreeStatesWrongFalsely : Prop := fnExactTreeStatesRow.holds Tryz.pinned (OpenSpec.ofChange fnExactTreeStatesWrong)

/-- 'laws.FnExactHoldsTree': WHATEVER THE INPUT: true; the input reads as it did. -/
def fnExactHoldsTreeSpec : ChangeSpec := { name := "fnExactHoldsTree", fn := fun _ => fun
  | [d1, d2, d3] => { results := [.lit (.bool true)], args := [d1, d2, d3] }
  | _ => none }
def fnExactHoldsTreeRow : OpenClaim := { program := "ytifkpliahhodoaagreat", sum := "70fb71db4f95d7be24fcc405b5107a00b6ca0ac5def965712b8ed60a8bc50aa5", func := "loop.example/wholecheck/laws.FnExactHoldsTree", spec := "fnExactHoldsTree", inPlace := ["slices.overlaps[[]int]"], unfollowed := true, recurses := true, apart := false }
def FnExactHoldsTreeSaid : Prop := fnExactHoldsTreeRow.holds Tryz.pinned (OpenSpec.ofChange fnExactHoldsTreeSpec)

/-- ITS FALSE NEIGHBOUR: 'it returns false'. Refute it at one input. -/
def fnExactHoldsTreeWrong : ChangeSpec := { name := "fnExactHoldsTree", fn := fun _ => fun
  | [d1, d2, d3] => { results := [.lit (.bool false)], args := [d1, d2, d3] }
  | _ => none }
def FnExactHoldsTreeWrongFalsely : Prop := fnExactHoldsTreeRow.holds Tryz.pinned (OpenSpec.ofChange fnExactHoldsTreeWrong)

/-- 'laws.FnTreeSets': WHATEVER THE INPUT: true; the input reads as it did. -/
def fnTreeSetsSpec : ChangeSpec := { name := "fnTreeSets", fn := fun _ => fun
  | [d] => { results := [.lit (.bool true)], args := [d] }
  | _ => none }
def fnTreeSetsRow : OpenClaim := { program := "ytifkpliahhodoaagreat", sum := "70fb71db4f95d7be24fcc405b5107a00b6ca0ac5def965712b8ed60a8bc50aa5", func := "loop.example/wholecheck/laws.FnTreeSets", spec := "fnTreeSets", inPlace := ["slices.overlaps[[]int]"], unfollowed := true, recurses := true, apart := false }
def FnTreeSetsSaid : Prop := fnTreeSetsRow.holds Tryz.pinned (OpenSpec.ofChange fnTreeSetsSpec)

/-- ITS FALSE NEIGHBOUR: 'it returns false'. Refute it at one input. -/
def fnTreeSetsWrong : ChangeSpec := { name := "fnTreeSets", fn := fun _ => fun
  | [d] => { results := [.lit (.bool false)], args := [d] }
  | _ => none }
def FnTreeSetsWrongFalsely : Prop := fnTreeSetsRow.holds Tryz.pinned (OpenSpec.ofChange fnTreeSetsWrong)

/-- 'laws.FnExactShowTree': WHATEVER THE INPUT: true; the input reads as it did. -/
def fnExactShowTreeSpec : ChangeSpec := { name := "fnExactShowTree", fn := fun _ => fun
  | [d1, d2, d3, d4] => { results := [.lit (.bool true)], args := [d1, d2, d3, d4] }
  | _ => none }
def fnExactShowTreeRow : OpenClaim := { program := "ytifkpliahhodoaagreat", sum := "70fb71db4f95d7be24fcc405b5107a00b6ca0ac5def965712b8ed60a8bc50aa5", func := "loop.example/wholecheck/laws.FnExactShowTree", spec := "fnExactShowTree", inPlace := ["slices.overlaps[[]int]"], unfollowed := true, recurses := true, apart := false }
def FnExactShowTreeSaid : Prop := fnExactShowTreeRow.holds Tryz.pinned (OpenSpec.ofChange fnExactShowTreeSpec)

/-- ITS FALSE NEIGHBOUR: 'it returns false'. Refute it at one input. -/
def fnExactShowTreeWrong : ChangeSpec := { name := "fnExactShowTree", fn := fun _ => fun
  | [d1, d2, d3, d4] => { results := [.lit (.bool false)], args := [d1, d2, d3, d4] }
  | _ => none }
def FnExactShowTreeWrongFalsely : Prop := fnExactShowTreeRow.holds Tryz.pinned (OpenSpec.ofChange fnExactShowTreeWrong)

/-- 'laws.FnShowTree': WHATEVER THE INPUT: true; the input reads as it did. -/
def fnShowTreeSpec : ChangeSpec := { name := "fnShowTree", fn := fun _ => fun
  | [d] => { results := [.lit (.bool true)], args := [d] }
  | _ => none }
def fnShowTreeRow : OpenClaim := { program := "ytifkpliahhodoaagreat", sum := "70fb71db4f95d7be24fcc405b5107a00b6ca0ac5def965712b8ed60a8bc50aa5", func := "loop.example/wholecheck/laws.FnShowTree", spec := "fnShowTree", inPlace := ["slices.overlaps[[]int]"], unfollowed := true, recurses := true, apart := false }
def FnShowTreeSaid : Prop := fnShowTreeRow.holds Tryz.pinned (OpenSpec.ofChange fnShowTreeSpec)

/-- ITS FALSE NEIGHBOUR: 'it returns false'. Refute it at one input. -/
def fnShowTreeWrong : ChangeSpec := { name := "fnShowTree", fn := fun _ => fun
  | [d] => { results := [.lit (.bool false)], args := [d] }
  | _ => none }
def FnShowTreeWrongFalsely : Prop := fnShowTreeRow.holds Tryz.pinned (OpenSpec.ofChange fnShowTreeWrong)

/- THE SECOND FORM. 'bulk': how many values and letters a reading holds, each counted each time it is reached (what is shared counts as often as it is met; a slice's spare places count too). A statement '..UptoSaid' is the law's where the arguments, and the package variables that the reading takes, are together of bulk at most 1048576: NARROWER than '..Said'. Prove '..Said' where nothing that the law and all that it calls make is longer than what came in: it says more and counts as full. Else prove '..UptoSaid'. A law counts once. -/
mutual
def uptoBulk {H : Type} : DataW H → Nat
  | .lit (.string bytes) => bytes.length + 1
  | .lit _ => 1
  | .nil => 1
  | .ptr d => uptoBulk d + 1
  | .slice elems spare => uptoBulkAll elems + uptoBulkAll spare + 1
  | .agg parts => uptoBulkAll parts + 1
  | .iface _ d => uptoBulk d + 1
  | .map entries => uptoBulkEntries entries + 1
  | .held _ => 1
def uptoBulkAll {H : Type} : List (DataW H) → Nat
  | [] => 0
  | d :: r => uptoBulk d + uptoBulkAll r
def uptoBulkEntries {H : Type} : List (Lit × DataW H) → Nat
  | [] => 0
  | x :: r => uptoBulkEntry x + uptoBulkEntries r
def uptoBulkEntry {H : Type} : Lit × DataW H → Nat
  | (.string bytes, d) => bytes.length + uptoBulk d + 1
  | (_, d) => uptoBulk d + 1
 end
def uptoSmall : (H : Type) → List (DataW H) → Bool := fun _ ds => decide (uptoBulkAll ds ≤ 1048576)
def OpenSpec.upto (s : _root_.Go.ChangeSpec) : _root_.Go.OpenSpec := { _root_.Go.OpenSpec.ofChange s with cond := some uptoSmall }

/-- 'laws.FnExactTreeSets', WHERE WHAT IT READS IS OF BULK AT MOST 1048576: true; the input reads as it did. -/
def fnExactTreeSetsUptoRow : OpenClaim := { program := "ytifkpliahhodoaagreat", sum := "70fb71db4f95d7be24fcc405b5107a00b6ca0ac5def965712b8ed60a8bc50aa5", func := "loop.example/wholecheck/laws.FnExactTreeSets", spec := "fnExactTreeSets", inPlace := ["slices.overlaps[[]int]"], unfollowed := true, recurses := true, apart := false, narrowed := true }
def FnExactTreeSetsUptoSaid : Prop := fnExactTreeSetsUptoRow.holds Tryz.pinned (OpenSpec.upto fnExactTreeSetsSpec)

/-- 'laws.FnExactTreeStates', WHERE WHAT IT READS IS OF BULK AT MOST 1048576: true; the input reads as it did. -/
def fnExactTreeStatesUptoRow : OpenClaim := { program := "ytifkpliahhodoaagreat", sum := "70fb71db4f95d7be24fcc405b5107a00b6ca0ac5def965712b8ed60a8bc50aa5", func := "loop.example/wholecheck/laws.FnExactTreeStates", spec := "fnExactTreeStates", inPlace := ["slices.overlaps[[]int]"], unfollowed := true, recurses := true, apart := false, narrowed := true }
def FnExactTreeStatesUptoSaid : Prop := fnExactTreeStatesUptoRow.holds Tryz.pinned (OpenSpec.upto fnExactTreeStatesSpec)

/-- 'laws.FnExactHoldsTree', WHERE WHAT IT READS IS OF BULK AT MOST 1048576: true; the input reads as it did. -/
def fnExactHoldsTreeUptoRow : OpenClaim := { program := "ytifkpliahhodoaagreat", sum := "70fb71db4f95d7be24fcc405b5107a00b6ca0ac5def965712b8ed60a8bc50aa5", func := "loop.example/wholecheck/laws.FnExactHoldsTree", spec := "fnExactHoldsTree", inPlace := ["slices.overlaps[[]int]"], unfollowed := true, recurses := true, apart := false, narrowed := true }
def FnExactHoldsTreeUptoSaid : Prop := fnExactHoldsTreeUptoRow.holds Tryz.pinned (OpenSpec.upto fnExactHoldsTreeSpec)

/-- 'laws.FnTreeSets', WHERE WHAT IT READS IS OF BULK AT MOST 1048576: true; the input reads as it did. -/
def fnTreeSetsUptoRow : OpenClaim := { program := "ytifkpliahhodoaagreat", sum := "70fb71db4f95d7be24fcc405b5107a00b6ca0ac5def965712b8ed60a8bc50aa5", func := "loop.example/wholecheck/laws.FnTreeSets", spec := "fnTreeSets", inPlace := ["slices.overlaps[[]int]"], unfollowed := true, recurses := true, apart := false, narrowed := true }
def FnTreeSetsUptoSaid : Prop := fnTreeSetsUptoRow.holds Tryz.pinned (OpenSpec.upto fnTreeSetsSpec)

/-- 'laws.FnExactShowTree', WHERE WHAT IT READS IS OF BULK AT MOST 1048576: true; the input reads as it did. -/
def fnExactShowTreeUptoRow : OpenClaim := { program := "ytifkpliahhodoaagreat", sum := "70fb71db4f95d7be24fcc405b5107a00b6ca0ac5def965712b8ed60a8bc50aa5", func := "loop.example/wholecheck/laws.FnExactShowTree", spec := "fnExactShowTree", inPlace := ["slices.overlaps[[]int]"], unfollowed := true, recurses := true, apart := false, narrowed := true }
def FnExactShowTreeUptoSaid : Prop := fnExactShowTreeUptoRow.holds Tryz.pinned (OpenSpec.upto fnExactShowTreeSpec)

/-- 'laws.FnShowTree', WHERE WHAT IT READS IS OF BULK AT MOST 1048576: true; the input reads as it did. -/
def fnShowTreeUptoRow : OpenClaim := { program := "ytifkpliahhodoaagreat", sum := "70fb71db4f95d7be24fcc405b5107a00b6ca0ac5def965712b8ed60a8bc50aa5", func := "loop.example/wholecheck/laws.FnShowTree", spec := "fnShowTree", inPlace := ["slices.overlaps[[]int]"], unfollowed := true, recurses := true, apart := false, narrowed := true }
def FnShowTreeUptoSaid : Prop := fnShowTreeUptoRow.holds Tryz.pinned (OpenSpec.upto fnShowTreeSpec)

end Rows
end Go.Proofs.YtifkpliahhodoaaGreat
