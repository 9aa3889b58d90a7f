/-
  No cell of these rows narrows 'for every input' (looked for: loops, veiled, ifaces, maps, wideKeys, modest, calm, conditions, laid).
  DERIVED. THE GIVEN ROWS OF THIS SEAT. 5 by the template 'for every input the law returns true; each argument reads behind the call as it read before'; 0 by the template 'total and deterministic' (their statements: YtknlennollmgeaaGreatTotals.lean).
  GIVEN WITH THE SEED: the statements are not yours to turn. If you find one false, say at which input.
  Laid BY PROGRAM, IN A SANDBOX (cutbox-rows.mjs): the forced cells as the released guide's own fill.sh prints them over the translation d8ee3415af037a14… (all of the seat's roots in one cut). By AI agents, Wed Nov 11 2026. No macro, syntax, notation, axiom, sorry.
-/
import Derived.Test.YtknlennollmgeaaGreatChecked
import GoSem.Claim
import GoSem.ClaimJoined
import GoSem.ClaimMapViews
import Derived.JoinedTies
import Derived.KernelRfl
namespace Go.Proofs.YtknlennollmgeaaGreat
/- THE CELL 'sum', in the pinned program and in every row, IS THE sha256 OF THE DUMP (.gsa) THAT YtknlennollmgeaaGreatProg.lean LOADS. Nothing in Lean hashes anything: it is a label: what it is worth is what the hold of that sum in a sandbox is worth. -/
noncomputable def Tryz.pinned : Pinned := { name := "ytknlennollmgeaagreat", sum := "d8ee3415af037a14370ac13320d7a5cf12a150357993bf71fb31f207f355fa7d", checked := Tryz.checked }
namespace Rows
def none {H : Type} : Left H := { results := [], args := [] }

/-- 'laws.FnExactFairCores': WHATEVER THE INPUT: true; the input reads as it did. -/
def fnExactFairCoresSpec : ChangeSpec := { name := "fnExactFairCores", fn := fun _ => fun
  | [d1, d2, d3, d4] => { results := [.lit (.bool true)], args := [d1, d2, d3, d4] }
  | _ => none }
def fnExactFairCoresRow : OpenClaim := { program := "ytknlennollmgeaagreat", sum := "d8ee3415af037a14370ac13320d7a5cf12a150357993bf71fb31f207f355fa7d", func := "loop.example/wholecheck/laws.FnExactFairCores", spec := "fnExactFairCores", inPlace := ["slices.overlaps[[]int]"], unfollowed := true, recurses := true, apart := false }
def FnExactFairCoresSaid : Prop := fnExactFairCoresRow.holds Tryz.pinned (OpenSpec.ofChange fnExactFairCoresSpec)

/-- ITS FALSE NEIGHBOUR: 'it returns false'. Refute it at one input. -/
def fnExactFairCoresWrong : ChangeSpec := { name := "fnExactFairCores", fn := fun _ => fun
  | [d1, d2, d3, d4] => { results := [.lit (.bool false)], args := [d1, d2, d3, d4] }
  | _ => none }
def FnExactFairCoresWrongFalsely : Prop := fnExactFairCoresRow.holds Tryz.pinned (OpenSpec.ofChange fnExactFairCoresWrong)

/-- 'laws.FnFairCores': WHATEVER THE INPUT: true; the input reads as it did. -/
def fnFairCoresSpec : ChangeSpec := { name := "fnFairCores", fn := fun _ => fun
  | [d] => { results := [.lit (.bool true)], args := [d] }
  | _ => none }
def fnFairCoresRow : OpenClaim := { program := "ytknlennollmgeaagreat", sum := "d8ee3415af037a14370ac13320d7a5cf12a150357993bf71fb31f207f355fa7d", func := "loop.example/wholecheck/laws.FnFairCores", spec := "fnFairCores", inPlace := ["slices.overlaps[[]int]"], unfollowed := true, recurses := true, apart := false }
def FnFairCoresSaid : Prop := fnFairCoresRow.holds Tryz.pinned (OpenSpec.ofChange fnFairCoresSpec)

/-- ITS FALSE NEIGHBOUR: 'it returns false'. Refute it at one input. -/
def fnFairCoresWrong : ChangeSpec := { name := "fnFairCores", fn := fun _ => fun
  | [d] => { results := [.lit (.bool false)], args := [d] }
  | _ => none }
def FnFairCoresWrongFalsely : Prop := fnFairCoresRow.holds Tryz.pinned (OpenSpec.ofChange fnFairCoresWrong)

/-- 'laws.FnAlwaysComes': WHATEVER THE INPUT: true; the input reads as it did. -/
def fnAlwaysComesSpec : ChangeSpec := { name := "fnAlwaysComes", fn := fun _ => fun
  | [d] => { results := [.lit (.bool true)], args := [d] }
  | _ => none }
def fnAlwaysComesRow : OpenClaim := { program := "ytknlennollmgeaagreat", sum := "d8ee3415af037a14370ac13320d7a5cf12a150357993bf71fb31f207f355fa7d", func := "loop.example/wholecheck/laws.FnAlwaysComes", spec := "fnAlwaysComes", inPlace := ["slices.overlaps[[]int]"], unfollowed := true, recurses := true, apart := false }
def FnAlwaysComesSaid : Prop := fnAlwaysComesRow.holds Tryz.pinned (OpenSpec.ofChange fnAlwaysComesSpec)

/-- ITS FALSE NEIGHBOUR: 'it returns false'. Refute it at one input. -/
def fnAlwaysComesWrong : ChangeSpec := { name := "fnAlwaysComes", fn := fun _ => fun
  | [d] => { results := [.lit (.bool false)], args := [d] }
  | _ => none }
def FnAlwaysComesWrongFalsely : Prop := fnAlwaysComesRow.holds Tryz.pinned (OpenSpec.ofChange fnAlwaysComesWrong)

/-- 'laws.FnExactFairWithin': WHATEVER THE INPUT: true; the input reads as it did. -/
def fnExactFairWithinSpec : ChangeSpec := { name := "fnExactFairWithin", fn := fun _ => fun
  | [d1, d2, d3, d4] => { results := [.lit (.bool true)], args := [d1, d2, d3, d4] }
  | _ => none }
def fnExactFairWithinRow : OpenClaim := { program := "ytknlennollmgeaagreat", sum := "d8ee3415af037a14370ac13320d7a5cf12a150357993bf71fb31f207f355fa7d", func := "loop.example/wholecheck/laws.FnExactFairWithin", spec := "fnExactFairWithin", inPlace := ["slices.overlaps[[]int]"], unfollowed := true, recurses := true, apart := false }
def FnExactFairWithinSaid : Prop := fnExactFairWithinRow.holds Tryz.pinned (OpenSpec.ofChange fnExactFairWithinSpec)

/-- ITS FALSE NEIGHBOUR: 'it returns false'. Refute it at one input. -/
def fnExactFairWithinWrong : ChangeSpec := { name := "fnExactFairWithin", fn := fun _ => fun
  | [d1, d2, d3, d4] => { results := [.lit (.bool false)], args := [d1, d2, d3, d4] }
  | _ => none }
def FnExactFairWithinWrongFalsely : Prop := fnExactFairWithinRow.holds Tryz.pinned (OpenSpec.ofChange fnExactFairWithinWrong)

/-- 'laws.FnExactAlwaysComes': WHATEVER THE INPUT: true; the input reads as it did. -/
def fnExactAlwaysComesSpec : ChangeSpec := { name := "fnExactAlwaysComes", fn := fun _ => fun
  | [d1, d2, d3, d4] => { results := [.lit (.bool true)], args := [d1, d2, d3, d4] }
  | _ => none }
def fnExactAlwaysComesRow : OpenClaim := { program := "ytknlennollmgeaagreat", sum := "d8ee3415af037a14370ac13320d7a5cf12a150357993bf71fb31f207f355fa7d", func := "loop.example/wholecheck/laws.FnExactAlwaysComes", spec := "fnExactAlwaysComes", inPlace := ["slices.overlaps[[]int]"], unfollowed := true, recurses := true, apart := false }
def FnExactAlwaysComesSaid : Prop := fnExactAlwaysComesRow.holds Tryz.pinned (OpenSpec.ofChange fnExactAlwaysComesSpec)

/-- ITS FALSE NEIGHBOUR: 'it returns false'. Refute it at one input. -/
def fnExactAlwaysComesWrong : ChangeSpec := { name := "fnExactAlwaysComes", fn := fun _ => fun
  | [d1, d2, d3, d4] => { results := [.lit (.bool false)], args := [d1, d2, d3, d4] }
  | _ => none }
def FnExactAlwaysComesWrongFalsely : Prop := fnExactAlwaysComesRow.holds Tryz.pinned (OpenSpec.ofChange fnExactAlwaysComesWrong)

/- THE SECOND FORM. 'bulk': how many values and letters a reading holds, each counted each time it is reached (what is shared counts as often as it is met; a slice's spare places count too). A statement '..UptoSaid' is the law's where the arguments, and the package variables that the reading takes, are together of bulk at most 1048576: NARROWER than '..Said'. Prove '..Said' where nothing that the law and all that it calls make is longer than what came in: it says more and counts as full. Else prove '..UptoSaid'. A law counts once. -/
mutual
def uptoBulk {H : Type} : DataW H → Nat
  | .lit (.string bytes) => bytes.length + 1
  | .lit _ => 1
  | .nil => 1
  | .ptr d => uptoBulk d + 1
  | .slice elems spare => uptoBulkAll elems + uptoBulkAll spare + 1
  | .agg parts => uptoBulkAll parts + 1
  | .iface _ d => uptoBulk d + 1
  | .map entries => uptoBulkEntries entries + 1
  | .held _ => 1
def uptoBulkAll {H : Type} : List (DataW H) → Nat
  | [] => 0
  | d :: r => uptoBulk d + uptoBulkAll r
def uptoBulkEntries {H : Type} : List (Lit × DataW H) → Nat
  | [] => 0
  | x :: r => uptoBulkEntry x + uptoBulkEntries r
def uptoBulkEntry {H : Type} : Lit × DataW H → Nat
  | (.string bytes, d) => bytes.length + uptoBulk d + 1
  | (_, d) => uptoBulk d + 1
 end
def uptoSmall : (H : Type) → List (DataW H) → Bool := fun _ ds => decide (uptoBulkAll ds ≤ 1048576)
def OpenSpec.upto (s : _root_.Go.ChangeSpec) : _root_.Go.OpenSpec := { _root_.Go.OpenSpec.ofChange s with cond := some uptoSmall }

/-- 'laws.FnExactFairCores', WHERE WHAT IT READS IS OF BULK AT MOST 1048576: true; the input reads as it did. -/
def fnExactFairCoresUptoRow : OpenClaim := { program := "ytknlennollmgeaagreat", sum := "d8ee3415af037a14370ac13320d7a5cf12a150357993bf71fb31f207f355fa7d", func := "loop.example/wholecheck/laws.FnExactFairCores", spec := "fnExactFairCores", inPlace := ["slices.overlaps[[]int]"], unfollowed := true, recurses := true, apart := false, narrowed := true }
def FnExactFairCoresUptoSaid : Prop := fnExactFairCoresUptoRow.holds Tryz.pinned (OpenSpec.upto fnExactFairCoresSpec)

/-- 'laws.FnFairCores', WHERE WHAT IT READS IS OF BULK AT MOST 1048576: true; the input reads as it did. -/
def fnFairCoresUptoRow : OpenClaim := { program := "ytknlennollmgeaagreat", sum := "d8ee3415af037a14370ac13320d7a5cf12a150357993bf71fb31f207f355fa7d", func := "loop.example/wholecheck/laws.FnFairCores", spec := "fnFairCores", inPlace := ["slices.overlaps[[]int]"], unfollowed := true, recurses := true, apart := false, narrowed := true }
def FnFairCoresUptoSaid : Prop := fnFairCoresUptoRow.holds Tryz.pinned (OpenSpec.upto fnFairCoresSpec)

/-- 'laws.FnAlwaysComes', WHERE WHAT IT READS IS OF BULK AT MOST 1048576: true; the input reads as it did. -/
def fnAlwaysComesUptoRow : OpenClaim := { program := "ytknlennollmgeaagreat", sum := "d8ee3415af037a14370ac13320d7a5cf12a150357993bf71fb31f207f355fa7d", func := "loop.example/wholecheck/laws.FnAlwaysComes", spec := "fnAlwaysComes", inPlace := ["slices.overlaps[[]int]"], unfollowed := true, recurses := true, apart := false, narrowed := true }
def FnAlwaysComesUptoSaid : Prop := fnAlwaysComesUptoRow.holds Tryz.pinned (OpenSpec.upto fnAlwaysComesSpec)

/-- 'laws.FnExactFairWithin', WHERE WHAT IT READS IS OF BULK AT MOST 1048576: true; the input reads as it did. -/
def fnExactFairWithinUptoRow : OpenClaim := { program := "ytknlennollmgeaagreat", sum := "d8ee3415af037a14370ac13320d7a5cf12a150357993bf71fb31f207f355fa7d", func := "loop.example/wholecheck/laws.FnExactFairWithin", spec := "fnExactFairWithin", inPlace := ["slices.overlaps[[]int]"], unfollowed := true, recurses := true, apart := false, narrowed := true }
def FnExactFairWithinUptoSaid : Prop := fnExactFairWithinUptoRow.holds Tryz.pinned (OpenSpec.upto fnExactFairWithinSpec)

/-- 'laws.FnExactAlwaysComes', WHERE WHAT IT READS IS OF BULK AT MOST 1048576: true; the input reads as it did. -/
def fnExactAlwaysComesUptoRow : OpenClaim := { program := "ytknlennollmgeaagreat", sum := "d8ee3415af037a14370ac13320d7a5cf12a150357993bf71fb31f207f355fa7d", func := "loop.example/wholecheck/laws.FnExactAlwaysComes", spec := "fnExactAlwaysComes", inPlace := ["slices.overlaps[[]int]"], unfollowed := true, recurses := true, apart := false, narrowed := true }
def FnExactAlwaysComesUptoSaid : Prop := fnExactAlwaysComesUptoRow.holds Tryz.pinned (OpenSpec.upto fnExactAlwaysComesSpec)

end Rows
end Go.Proofs.YtknlennollmgeaaGreat
