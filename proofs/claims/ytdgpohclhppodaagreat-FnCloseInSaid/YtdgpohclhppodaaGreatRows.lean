/-
  No cell of these rows narrows 'for every input' (looked for: loops, veiled, ifaces, maps, wideKeys, modest, calm, conditions, laid).
  DERIVED. THE GIVEN ROWS OF THIS SEAT. 4 by the template 'for every input the law returns true; each argument reads behind the call as it read before'; 0 by the template 'total and deterministic' (their statements: YtdgpohclhppodaaGreatTotals.lean).
  GIVEN WITH THE SEED: the statements are not yours to turn. If you find one false, say at which input.
  Laid BY PROGRAM, IN A SANDBOX (cutbox-rows.mjs): the forced cells as the released guide's own fill.sh prints them over the translation 44a6e788a270d339… (all of the seat's roots in one cut). By AI agents, Wed Nov 11 2026. No macro, syntax, notation, axiom, sorry.
-/
import Derived.Test.YtdgpohclhppodaaGreatChecked
import GoSem.Claim
import GoSem.ClaimJoined
import GoSem.ClaimMapViews
import Derived.JoinedTies
import Derived.KernelRfl
namespace Go.Proofs.YtdgpohclhppodaaGreat
/- THE CELL 'sum', in the pinned program and in every row, IS THE sha256 OF THE DUMP (.gsa) THAT YtdgpohclhppodaaGreatProg.lean LOADS. Nothing in Lean hashes anything: it is a label: what it is worth is what the hold of that sum in a sandbox is worth. -/
noncomputable def Tryz.pinned : Pinned := { name := "ytdgpohclhppodaagreat", sum := "44a6e788a270d33992e0612c0ab5b3e23e2ecdf6ef09173d05fda93544d61259", checked := Tryz.checked }
namespace Rows
def none {H : Type} : Left H := { results := [], args := [] }

/-- 'laws.FnCloseIn': WHATEVER THE INPUT: true; the input reads as it did. -/
def fnCloseInSpec : ChangeSpec := { name := "fnCloseIn", fn := fun _ => fun
  | [d] => { results := [.lit (.bool true)], args := [d] }
  | _ => none }
def fnCloseInRow : OpenClaim := { program := "ytdgpohclhppodaagreat", sum := "44a6e788a270d33992e0612c0ab5b3e23e2ecdf6ef09173d05fda93544d61259", func := "loop.example/wholecheck/laws.FnCloseIn", spec := "fnCloseIn", inPlace := ["slices.overlaps[[]int]"], unfollowed := true, recurses := true, plainKeys := false, apart := false }
def FnCloseInSaid : Prop := fnCloseInRow.holds Tryz.pinned (OpenSpec.ofChange fnCloseInSpec)

/-- ITS FALSE NEIGHBOUR: 'it returns false'. Refute it at one input. -/
def fnCloseInWrong : ChangeSpec := { name := "fnCloseIn", fn := fun _ => fun
  | [d] => { results := [.lit (.bool false)], args := [d] }
  | _ => none }
def FnCloseInWrongFalsely : Prop := fnCloseInRow.holds Tryz.pinned (OpenSpec.ofChange fnCloseInWrong)

/-- 'laws.FnHoldsOnRun': WHATEVER THE INPUT: true; the input reads as it did. -/
def fnHoldsOnRunSpec : ChangeSpec := { name := "fnHoldsOnRun", fn := fun _ => fun
  | [d] => { results := [.lit (.bool true)], args := [d] }
  | _ => none }
def fnHoldsOnRunRow : OpenClaim := { program := "ytdgpohclhppodaagreat", sum := "44a6e788a270d33992e0612c0ab5b3e23e2ecdf6ef09173d05fda93544d61259", func := "loop.example/wholecheck/laws.FnHoldsOnRun", spec := "fnHoldsOnRun", unfollowed := true, recurses := true, plainKeys := false, apart := false }
def FnHoldsOnRunSaid : Prop := fnHoldsOnRunRow.holds Tryz.pinned (OpenSpec.ofChange fnHoldsOnRunSpec)

/-- ITS FALSE NEIGHBOUR: 'it returns false'. Refute it at one input. -/
def fnHoldsOnRunWrong : ChangeSpec := { name := "fnHoldsOnRun", fn := fun _ => fun
  | [d] => { results := [.lit (.bool false)], args := [d] }
  | _ => none }
def FnHoldsOnRunWrongFalsely : Prop := fnHoldsOnRunRow.holds Tryz.pinned (OpenSpec.ofChange fnHoldsOnRunWrong)

/-- 'laws.FnExactStepDiagram': WHATEVER THE INPUT: true; the input reads as it did. -/
def fnExactStepDiagramSpec : ChangeSpec := { name := "fnExactStepDiagram", fn := fun _ => fun
  | [d] => { results := [.lit (.bool true)], args := [d] }
  | _ => none }
def fnExactStepDiagramRow : OpenClaim := { program := "ytdgpohclhppodaagreat", sum := "44a6e788a270d33992e0612c0ab5b3e23e2ecdf6ef09173d05fda93544d61259", func := "loop.example/wholecheck/laws.FnExactStepDiagram", spec := "fnExactStepDiagram", inPlace := ["slices.overlaps[[]int]"], unfollowed := true, recurses := true, plainKeys := false, apart := false }
def FnExactStepDiagramSaid : Prop := fnExactStepDiagramRow.holds Tryz.pinned (OpenSpec.ofChange fnExactStepDiagramSpec)

/-- ITS FALSE NEIGHBOUR: 'it returns false'. Refute it at one input. -/
def fnExactStepDiagramWrong : ChangeSpec := { name := "fnExactStepDiagram", fn := fun _ => fun
  | [d] => { results := [.lit (.bool false)], args := [d] }
  | _ => none }
def FnExactStepDiagramWrongFalsely : Prop := fnExactStepDiagramRow.holds Tryz.pinned (OpenSpec.ofChange fnExactStepDiagramWrong)

/-- 'laws.FnExactStepCircuit': WHATEVER THE INPUT: true; the input reads as it did. -/
def fnExactStepCircuitSpec : ChangeSpec := { name := "fnExactStepCircuit", fn := fun _ => fun
  | [d] => { results := [.lit (.bool true)], args := [d] }
  | _ => none }
def fnExactStepCircuitRow : OpenClaim := { program := "ytdgpohclhppodaagreat", sum := "44a6e788a270d33992e0612c0ab5b3e23e2ecdf6ef09173d05fda93544d61259", func := "loop.example/wholecheck/laws.FnExactStepCircuit", spec := "fnExactStepCircuit", inPlace := ["slices.overlaps[[]int]"], unfollowed := true, recurses := true, plainKeys := false, apart := false }
def FnExactStepCircuitSaid : Prop := fnExactStepCircuitRow.holds Tryz.pinned (OpenSpec.ofChange fnExactStepCircuitSpec)

/-- ITS FALSE NEIGHBOUR: 'it returns false'. Refute it at one input. -/
def fnExactStepCircuitWrong : ChangeSpec := { name := "fnExactStepCircuit", fn := fun _ => fun
  | [d] => { results := [.lit (.bool false)], args := [d] }
  | _ => none }
def FnExactStepCircuitWrongFalsely : Prop := fnExactStepCircuitRow.holds Tryz.pinned (OpenSpec.ofChange fnExactStepCircuitWrong)

/- THE SECOND FORM. 'bulk': how many values and letters a reading holds, each counted each time it is reached (what is shared counts as often as it is met; a slice's spare places count too). A statement '..UptoSaid' is the law's where the arguments, and the package variables that the reading takes, are together of bulk at most 1048576: NARROWER than '..Said'. Prove '..Said' where nothing that the law and all that it calls make is longer than what came in: it says more and counts as full. Else prove '..UptoSaid'. A law counts once. -/
mutual
def uptoBulk {H : Type} : DataW H → Nat
  | .lit (.string bytes) => bytes.length + 1
  | .lit _ => 1
  | .nil => 1
  | .ptr d => uptoBulk d + 1
  | .slice elems spare => uptoBulkAll elems + uptoBulkAll spare + 1
  | .agg parts => uptoBulkAll parts + 1
  | .iface _ d => uptoBulk d + 1
  | .map entries => uptoBulkEntries entries + 1
  | .held _ => 1
def uptoBulkAll {H : Type} : List (DataW H) → Nat
  | [] => 0
  | d :: r => uptoBulk d + uptoBulkAll r
def uptoBulkEntries {H : Type} : List (Lit × DataW H) → Nat
  | [] => 0
  | x :: r => uptoBulkEntry x + uptoBulkEntries r
def uptoBulkEntry {H : Type} : Lit × DataW H → Nat
  | (.string bytes, d) => bytes.length + uptoBulk d + 1
  | (_, d) => uptoBulk d + 1
 end
def uptoSmall : (H : Type) → List (DataW H) → Bool := fun _ ds => decide (uptoBulkAll ds ≤ 1048576)
def OpenSpec.upto (s : _root_.Go.ChangeSpec) : _root_.Go.OpenSpec := { _root_.Go.OpenSpec.ofChange s with cond := some uptoSmall }

/-- 'laws.FnCloseIn', WHERE WHAT IT READS IS OF BULK AT MOST 1048576: true; the input reads as it did. -/
def fnCloseInUptoRow : OpenClaim := { program := "ytdgpohclhppodaagreat", sum := "44a6e788a270d33992e0612c0ab5b3e23e2ecdf6ef09173d05fda93544d61259", func := "loop.example/wholecheck/laws.FnCloseIn", spec := "fnCloseIn", inPlace := ["slices.overlaps[[]int]"], unfollowed := true, recurses := true, plainKeys := false, apart := false, narrowed := true }
def FnCloseInUptoSaid : Prop := fnCloseInUptoRow.holds Tryz.pinned (OpenSpec.upto fnCloseInSpec)

/-- 'laws.FnHoldsOnRun', WHERE WHAT IT READS IS OF BULK AT MOST 1048576: true; the input reads as it did. -/
def fnHoldsOnRunUptoRow : OpenClaim := { program := "ytdgpohclhppodaagreat", sum := "44a6e788a270d33992e0612c0ab5b3e23e2ecdf6ef09173d05fda93544d61259", func := "loop.example/wholecheck/laws.FnHoldsOnRun", spec := "fnHoldsOnRun", unfollowed := true, recurses := true, plainKeys := false, apart := false, narrowed := true }
def FnHoldsOnRunUptoSaid : Prop := fnHoldsOnRunUptoRow.holds Tryz.pinned (OpenSpec.upto fnHoldsOnRunSpec)

/-- 'laws.FnExactStepDiagram', WHERE WHAT IT READS IS OF BULK AT MOST 1048576: true; the input reads as it did. -/
def fnExactStepDiagramUptoRow : OpenClaim := { program := "ytdgpohclhppodaagreat", sum := "44a6e788a270d33992e0612c0ab5b3e23e2ecdf6ef09173d05fda93544d61259", func := "loop.example/wholecheck/laws.FnExactStepDiagram", spec := "fnExactStepDiagram", inPlace := ["slices.overlaps[[]int]"], unfollowed := true, recurses := true, plainKeys := false, apart := false, narrowed := true }
def FnExactStepDiagramUptoSaid : Prop := fnExactStepDiagramUptoRow.holds Tryz.pinned (OpenSpec.upto fnExactStepDiagramSpec)

/-- 'laws.FnExactStepCircuit', WHERE WHAT IT READS IS OF BULK AT MOST 1048576: true; the input reads as it did. -/
def fnExactStepCircuitUptoRow : OpenClaim := { program := "ytdgpohclhppodaagreat", sum := "44a6e788a270d33992e0612c0ab5b3e23e2ecdf6ef09173d05fda93544d61259", func := "loop.example/wholecheck/laws.FnExactStepCircuit", spec := "fnExactStepCircuit", inPlace := ["slices.overlaps[[]int]"], unfollowed := true, recurses := true, plainKeys := false, apart := false, narrowed := true }
def FnExactStepCircuitUptoSaid : Prop := fnExactStepCircuitUptoRow.holds Tryz.pinned (OpenSpec.upto fnExactStepCircuitSpec)

end Rows
end Go.Proofs.YtdgpohclhppodaaGreat
