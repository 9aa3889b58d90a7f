/-
  No cell of these rows narrows 'for every input' (looked for: loops, veiled, ifaces, maps, wideKeys, modest, calm, conditions, laid).
  DERIVED. THE GIVEN ROWS OF THIS SEAT. 6 by the template 'for every input the law returns true; each argument reads behind the call as it read before'; 0 by the template 'total and deterministic' (their statements: YtinfckfdphemiaaGreatTotals.lean).
  GIVEN WITH THE SEED: the statements are not yours to turn. If you find one false, say at which input.
  Laid BY PROGRAM, IN A SANDBOX (cutbox-rows.mjs): the forced cells as the released guide's own fill.sh prints them over the translation 40542c1e4270d9bc… (all of the seat's roots in one cut). By AI agents, Wed Nov 11 2026. No macro, syntax, notation, axiom, sorry.
-/
import Derived.Test.YtinfckfdphemiaaGreatChecked
import GoSem.Claim
import GoSem.ClaimJoined
import GoSem.ClaimMapViews
import Derived.JoinedTies
import Derived.KernelRfl
namespace Go.Proofs.YtinfckfdphemiaaGreat
/- THE CELL 'sum', in the pinned program and in every row, IS THE sha256 OF THE DUMP (.gsa) THAT YtinfckfdphemiaaGreatProg.lean LOADS. Nothing in Lean hashes anything: it is a label: what it is worth is what the hold of that sum in a sandbox is worth. -/
noncomputable def Tryz.pinned : Pinned := { name := "ytinfckfdphemiaagreat", sum := "40542c1e4270d9bc4237bf3ee9a970c782e3491dd42b32e93a0d474c22b36453", checked := Tryz.checked }
namespace Rows
def none {H : Type} : Left H := { results := [], args := [] }

/-- 'laws.FnExactHoldsOnRun': WHATEVER THE INPUT: true; the input reads as it did. -/
def fnExactHoldsOnRunSpec : ChangeSpec := { name := "fnExactHoldsOnRun", fn := fun _ => fun
  | [d1, d2, d3, d4, d5] => { results := [.lit (.bool true)], args := [d1, d2, d3, d4, d5] }
  | _ => none }
def fnExactHoldsOnRunRow : OpenClaim := { program := "ytinfckfdphemiaagreat", sum := "40542c1e4270d9bc4237bf3ee9a970c782e3491dd42b32e93a0d474c22b36453", func := "loop.example/wholecheck/laws.FnExactHoldsOnRun", spec := "fnExactHoldsOnRun", unfollowed := true, recurses := true, apart := false }
def FnExactHoldsOnRunSaid : Prop := fnExactHoldsOnRunRow.holds Tryz.pinned (OpenSpec.ofChange fnExactHoldsOnRunSpec)

/-- ITS FALSE NEIGHBOUR: 'it returns false'. Refute it at one input. -/
def fnExactHoldsOnRunWrong : ChangeSpec := { name := "fnExactHoldsOnRun", fn := fun _ => fun
  | [d1, d2, d3, d4, d5] => { results := [.lit (.bool false)], args := [d1, d2, d3, d4, d5] }
  | _ => none }
def FnExactHoldsOnRunWrongFalsely : Prop := fnExactHoldsOnRunRow.holds Tryz.pinned (OpenSpec.ofChange fnExactHoldsOnRunWrong)

/-- 'laws.FnExactBackWithin': WHATEVER THE INPUT: true; the input reads as it did. -/
def fnExactBackWithinSpec : ChangeSpec := { name := "fnExactBackWithin", fn := fun _ => fun
  | [d1, d2, d3] => { results := [.lit (.bool true)], args := [d1, d2, d3] }
  | _ => none }
def fnExactBackWithinRow : OpenClaim := { program := "ytinfckfdphemiaagreat", sum := "40542c1e4270d9bc4237bf3ee9a970c782e3491dd42b32e93a0d474c22b36453", func := "loop.example/wholecheck/laws.FnExactBackWithin", spec := "fnExactBackWithin", inPlace := ["slices.overlaps[[]int]"], unfollowed := true, recurses := true, apart := false }
def FnExactBackWithinSaid : Prop := fnExactBackWithinRow.holds Tryz.pinned (OpenSpec.ofChange fnExactBackWithinSpec)

/-- ITS FALSE NEIGHBOUR: 'it returns false'. Refute it at one input. -/
def fnExactBackWithinWrong : ChangeSpec := { name := "fnExactBackWithin", fn := fun _ => fun
  | [d1, d2, d3] => { results := [.lit (.bool false)], args := [d1, d2, d3] }
  | _ => none }
def FnExactBackWithinWrongFalsely : Prop := fnExactBackWithinRow.holds Tryz.pinned (OpenSpec.ofChange fnExactBackWithinWrong)

/-- 'laws.FnAlwaysBy': WHATEVER THE INPUT: true; the input reads as it did. -/
def fnAlwaysBySpec : ChangeSpec := { name := "fnAlwaysBy", fn := fun _ => fun
  | [d] => { results := [.lit (.bool true)], args := [d] }
  | _ => none }
def fnAlwaysByRow : OpenClaim := { program := "ytinfckfdphemiaagreat", sum := "40542c1e4270d9bc4237bf3ee9a970c782e3491dd42b32e93a0d474c22b36453", func := "loop.example/wholecheck/laws.FnAlwaysBy", spec := "fnAlwaysBy", inPlace := ["slices.overlaps[[]int]"], unfollowed := true, recurses := true, apart := false }
def FnAlwaysBySaid : Prop := fnAlwaysByRow.holds Tryz.pinned (OpenSpec.ofChange fnAlwaysBySpec)

/-- ITS FALSE NEIGHBOUR: 'it returns false'. Refute it at one input. -/
def fnAlwaysByWrong : ChangeSpec := { name := "fnAlwaysBy", fn := fun _ => fun
  | [d] => { results := [.lit (.bool false)], args := [d] }
  | _ => none }
def FnAlwaysByWrongFalsely : Prop := fnAlwaysByRow.holds Tryz.pinned (OpenSpec.ofChange fnAlwaysByWrong)

/-- 'laws.FnClosedReach': WHATEVER THE INPUT: true; the input reads as it did. -/
def fnClosedReachSpec : ChangeSpec := { name := "fnClosedReach", fn := fun _ => fun
  | [d] => { results := [.lit (.bool true)], args := [d] }
  | _ => none }
def fnClosedReachRow : OpenClaim := { program := "ytinfckfdphemiaagreat", sum := "40542c1e4270d9bc4237bf3ee9a970c782e3491dd42b32e93a0d474c22b36453", func := "loop.example/wholecheck/laws.FnClosedReach", spec := "fnClosedReach", inPlace := ["slices.overlaps[[]int]"], unfollowed := true, recurses := true, apart := false }
def FnClosedReachSaid : Prop := fnClosedReachRow.holds Tryz.pinned (OpenSpec.ofChange fnClosedReachSpec)

/-- ITS FALSE NEIGHBOUR: 'it returns false'. Refute it at one input. -/
def fnClosedReachWrong : ChangeSpec := { name := "fnClosedReach", fn := fun _ => fun
  | [d] => { results := [.lit (.bool false)], args := [d] }
  | _ => none }
def FnClosedReachWrongFalsely : Prop := fnClosedReachRow.holds Tryz.pinned (OpenSpec.ofChange fnClosedReachWrong)

/-- 'laws.FnExactLooplessTo': WHATEVER THE INPUT: true; the input reads as it did. -/
def fnExactLooplessToSpec : ChangeSpec := { name := "fnExactLooplessTo", fn := fun _ => fun
  | [d1, d2, d3] => { results := [.lit (.bool true)], args := [d1, d2, d3] }
  | _ => none }
def fnExactLooplessToRow : OpenClaim := { program := "ytinfckfdphemiaagreat", sum := "40542c1e4270d9bc4237bf3ee9a970c782e3491dd42b32e93a0d474c22b36453", func := "loop.example/wholecheck/laws.FnExactLooplessTo", spec := "fnExactLooplessTo", inPlace := ["slices.overlaps[[]int]"], unfollowed := true, recurses := true, apart := false }
def FnExactLooplessToSaid : Prop := fnExactLooplessToRow.holds Tryz.pinned (OpenSpec.ofChange fnExactLooplessToSpec)

/-- ITS FALSE NEIGHBOUR: 'it returns false'. Refute it at one input. -/
def fnExactLooplessToWrong : ChangeSpec := { name := "fnExactLooplessTo", fn := fun _ => fun
  | [d1, d2, d3] => { results := [.lit (.bool false)], args := [d1, d2, d3] }
  | _ => none }
def FnExactLooplessToWrongFalsely : Prop := fnExactLooplessToRow.holds Tryz.pinned (OpenSpec.ofChange fnExactLooplessToWrong)

/-- 'laws.FnExactAlwaysBy': WHATEVER THE INPUT: true; the input reads as it did. -/
def fnExactAlwaysBySpec : ChangeSpec := { name := "fnExactAlwaysBy", fn := fun _ => fun
  | [d1, d2] => { results := [.lit (.bool true)], args := [d1, d2] }
  | _ => none }
def fnExactAlwaysByRow : OpenClaim := { program := "ytinfckfdphemiaagreat", sum := "40542c1e4270d9bc4237bf3ee9a970c782e3491dd42b32e93a0d474c22b36453", func := "loop.example/wholecheck/laws.FnExactAlwaysBy", spec := "fnExactAlwaysBy", inPlace := ["slices.overlaps[[]int]"], unfollowed := true, recurses := true, apart := false }
def FnExactAlwaysBySaid : Prop := fnExactAlwaysByRow.holds Tryz.pinned (OpenSpec.ofChange fnExactAlwaysBySpec)

/-- ITS FALSE NEIGHBOUR: 'it returns false'. Refute it at one input. -/
def fnExactAlwaysByWrong : ChangeSpec := { name := "fnExactAlwaysBy", fn := fun _ => fun
  | [d1, d2] => { results := [.lit (.bool false)], args := [d1, d2] }
  | _ => none }
def FnExactAlwaysByWrongFalsely : Prop := fnExactAlwaysByRow.holds Tryz.pinned (OpenSpec.ofChange fnExactAlwaysByWrong)

/- THE SECOND FORM. 'bulk': how many values and letters a reading holds, each counted each time it is reached (what is shared counts as often as it is met; a slice's spare places count too). A statement '..UptoSaid' is the law's where the arguments, and the package variables that the reading takes, are together of bulk at most 1048576: NARROWER than '..Said'. Prove '..Said' where nothing that the law and all that it calls make is longer than what came in: it says more and counts as full. Else prove '..UptoSaid'. A law counts once. -/
mutual
def uptoBulk {H : Type} : DataW H → Nat
  | .lit (.string bytes) => bytes.length + 1
  | .lit _ => 1
  | .nil => 1
  | .ptr d => uptoBulk d + 1
  | .slice elems spare => uptoBulkAll elems + uptoBulkAll spare + 1
  | .agg parts => uptoBulkAll parts + 1
  | .iface _ d => uptoBulk d + 1
  | .map entries => uptoBulkEntries entries + 1
  | .held _ => 1
def uptoBulkAll {H : Type} : List (DataW H) → Nat
  | [] => 0
  | d :: r => uptoBulk d + uptoBulkAll r
def uptoBulkEntries {H : Type} : List (Lit × DataW H) → Nat
  | [] => 0
  | x :: r => uptoBulkEntry x + uptoBulkEntries r
def uptoBulkEntry {H : Type} : Lit × DataW H → Nat
  | (.string bytes, d) => bytes.length + uptoBulk d + 1
  | (_, d) => uptoBulk d + 1
 end
def uptoSmall : (H : Type) → List (DataW H) → Bool := fun _ ds => decide (uptoBulkAll ds ≤ 1048576)
def OpenSpec.upto (s : _root_.Go.ChangeSpec) : _root_.Go.OpenSpec := { _root_.Go.OpenSpec.ofChange s with cond := some uptoSmall }

/-- 'laws.FnExactHoldsOnRun', WHERE WHAT IT READS IS OF BULK AT MOST 1048576: true; the input reads as it did. -/
def fnExactHoldsOnRunUptoRow : OpenClaim := { program := "ytinfckfdphemiaagreat", sum := "40542c1e4270d9bc4237bf3ee9a970c782e3491dd42b32e93a0d474c22b36453", func := "loop.example/wholecheck/laws.FnExactHoldsOnRun", spec := "fnExactHoldsOnRun", unfollowed := true, recurses := true, apart := false, narrowed := true }
def FnExactHoldsOnRunUptoSaid : Prop := fnExactHoldsOnRunUptoRow.holds Tryz.pinned (OpenSpec.upto fnExactHoldsOnRunSpec)

/-- 'laws.FnExactBackWithin', WHERE WHAT IT READS IS OF BULK AT MOST 1048576: true; the input reads as it did. -/
def fnExactBackWithinUptoRow : OpenClaim := { program := "ytinfckfdphemiaagreat", sum := "40542c1e4270d9bc4237bf3ee9a970c782e3491dd42b32e93a0d474c22b36453", func := "loop.example/wholecheck/laws.FnExactBackWithin", spec := "fnExactBackWithin", inPlace := ["slices.overlaps[[]int]"], unfollowed := true, recurses := true, apart := false, narrowed := true }
def FnExactBackWithinUptoSaid : Prop := fnExactBackWithinUptoRow.holds Tryz.pinned (OpenSpec.upto fnExactBackWithinSpec)

/-- 'laws.FnAlwaysBy', WHERE WHAT IT READS IS OF BULK AT MOST 1048576: true; the input reads as it did. -/
def fnAlwaysByUptoRow : OpenClaim := { program := "ytinfckfdphemiaagreat", sum := "40542c1e4270d9bc4237bf3ee9a970c782e3491dd42b32e93a0d474c22b36453", func := "loop.example/wholecheck/laws.FnAlwaysBy", spec := "fnAlwaysBy", inPlace := ["slices.overlaps[[]int]"], unfollowed := true, recurses := true, apart := false, narrowed := true }
def FnAlwaysByUptoSaid : Prop := fnAlwaysByUptoRow.holds Tryz.pinned (OpenSpec.upto fnAlwaysBySpec)

/-- 'laws.FnClosedReach', WHERE WHAT IT READS IS OF BULK AT MOST 1048576: true; the input reads as it did. -/
def fnClosedReachUptoRow : OpenClaim := { program := "ytinfckfdphemiaagreat", sum := "40542c1e4270d9bc4237bf3ee9a970c782e3491dd42b32e93a0d474c22b36453", func := "loop.example/wholecheck/laws.FnClosedReach", spec := "fnClosedReach", inPlace := ["slices.overlaps[[]int]"], unfollowed := true, recurses := true, apart := false, narrowed := true }
def FnClosedReachUptoSaid : Prop := fnClosedReachUptoRow.holds Tryz.pinned (OpenSpec.upto fnClosedReachSpec)

/-- 'laws.FnExactLooplessTo', WHERE WHAT IT READS IS OF BULK AT MOST 1048576: true; the input reads as it did. -/
def fnExactLooplessToUptoRow : OpenClaim := { program := "ytinfckfdphemiaagreat", sum := "40542c1e4270d9bc4237bf3ee9a970c782e3491dd42b32e93a0d474c22b36453", func := "loop.example/wholecheck/laws.FnExactLooplessTo", spec := "fnExactLooplessTo", inPlace := ["slices.overlaps[[]int]"], unfollowed := true, recurses := true, apart := false, narrowed := true }
def FnExactLooplessToUptoSaid : Prop := fnExactLooplessToUptoRow.holds Tryz.pinned (OpenSpec.upto fnExactLooplessToSpec)

/-- 'laws.FnExactAlwaysBy', WHERE WHAT IT READS IS OF BULK AT MOST 1048576: true; the input reads as it did. -/
def fnExactAlwaysByUptoRow : OpenClaim := { program := "ytinfckfdphemiaagreat", sum := "40542c1e4270d9bc4237bf3ee9a970c782e3491dd42b32e93a0d474c22b36453", func := "loop.example/wholecheck/laws.FnExactAlwaysBy", spec := "fnExactAlwaysBy", inPlace := ["slices.overlaps[[]int]"], unfollowed := true, recurses := true, apart := false, narrowed := true }
def FnExactAlwaysByUptoSaid : Prop := fnExactAlwaysByUptoRow.holds Tryz.pinned (OpenSpec.upto fnExactAlwaysBySpec)

end Rows
end Go.Proofs.YtinfckfdphemiaaGreat
