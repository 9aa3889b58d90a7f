/-
  No cell of these rows narrows 'for every input' (looked for: loops, veiled, ifaces, maps, wideKeys, modest, calm, conditions, laid).
  DERIVED. THE GIVEN ROWS OF THIS SEAT. 6 by the template 'for every input the law returns true; each argument reads behind the call as it read before'; 0 by the template 'total and deterministic' (their statements: YtdcdnfcmllfmlaaGreatTotals.lean).
  GIVEN WITH THE SEED: the statements are not yours to turn. If you find one false, say at which input.
  Laid BY PROGRAM, IN A SANDBOX (cutbox-rows.mjs): the forced cells as the released guide's own fill.sh prints them over the translation ee147e8eecc419e4… (all of the seat's roots in one cut). By AI agents, Wed Nov 11 2026. No macro, syntax, notation, axiom, sorry.
-/
import Derived.Test.YtdcdnfcmllfmlaaGreatChecked
import GoSem.Claim
import GoSem.ClaimJoined
import GoSem.ClaimMapViews
import Derived.JoinedTies
import Derived.KernelRfl
namespace Go.Proofs.YtdcdnfcmllfmlaaGreat
/- THE CELL 'sum', in the pinned program and in every row, IS THE sha256 OF THE DUMP (.gsa) THAT YtdcdnfcmllfmlaaGreatProg.lean LOADS. Nothing in Lean hashes anything: it is a label: what it is worth is what the hold of that sum in a sandbox is worth. -/
noncomputable def Tryz.pinned : Pinned := { name := "ytdcdnfcmllfmlaagreat", sum := "ee147e8eecc419e4bf4e9969a4c5e5b5fd31cae7267b37404e29e957336bd9cc", checked := Tryz.checked }
namespace Rows
def none {H : Type} : Left H := { results := [], args := [] }

/-- 'laws.FnShortest': WHATEVER THE INPUT: true; the input reads as it did. -/
def fnShortestSpec : ChangeSpec := { name := "fnShortest", fn := fun _ => fun
  | [d] => { results := [.lit (.bool true)], args := [d] }
  | _ => none }
def fnShortestRow : OpenClaim := { program := "ytdcdnfcmllfmlaagreat", sum := "ee147e8eecc419e4bf4e9969a4c5e5b5fd31cae7267b37404e29e957336bd9cc", func := "loop.example/wholecheck/laws.FnShortest", spec := "fnShortest", inPlace := ["slices.overlaps[[]int]"], unfollowed := true, recurses := true, apart := false }
def FnShortestSaid : Prop := fnShortestRow.holds Tryz.pinned (OpenSpec.ofChange fnShortestSpec)

/-- ITS FALSE NEIGHBOUR: 'it returns false'. Refute it at one input. -/
def fnShortestWrong : ChangeSpec := { name := "fnShortest", fn := fun _ => fun
  | [d] => { results := [.lit (.bool false)], args := [d] }
  | _ => none }
def FnShortestWrongFalsely : Prop := fnShortestRow.holds Tryz.pinned (OpenSpec.ofChange fnShortestWrong)

/-- 'laws.FnAlwaysOrWay': WHATEVER THE INPUT: true; the input reads as it did. -/
def fnAlwaysOrWaySpec : ChangeSpec := { name := "fnAlwaysOrWay", fn := fun _ => fun
  | [d] => { results := [.lit (.bool true)], args := [d] }
  | _ => none }
def fnAlwaysOrWayRow : OpenClaim := { program := "ytdcdnfcmllfmlaagreat", sum := "ee147e8eecc419e4bf4e9969a4c5e5b5fd31cae7267b37404e29e957336bd9cc", func := "loop.example/wholecheck/laws.FnAlwaysOrWay", spec := "fnAlwaysOrWay", inPlace := ["slices.overlaps[[]int]"], unfollowed := true, recurses := true, apart := false }
def FnAlwaysOrWaySaid : Prop := fnAlwaysOrWayRow.holds Tryz.pinned (OpenSpec.ofChange fnAlwaysOrWaySpec)

/-- ITS FALSE NEIGHBOUR: 'it returns false'. Refute it at one input. -/
def fnAlwaysOrWayWrong : ChangeSpec := { name := "fnAlwaysOrWay", fn := fun _ => fun
  | [d] => { results := [.lit (.bool false)], args := [d] }
  | _ => none }
def FnAlwaysOrWayWrongFalsely : Prop := fnAlwaysOrWayRow.holds Tryz.pinned (OpenSpec.ofChange fnAlwaysOrWayWrong)

/-- 'laws.FnProductNext': WHATEVER THE INPUT: true; the input reads as it did. -/
def fnProductNextSpec : ChangeSpec := { name := "fnProductNext", fn := fun _ => fun
  | [d] => { results := [.lit (.bool true)], args := [d] }
  | _ => none }
def fnProductNextRow : OpenClaim := { program := "ytdcdnfcmllfmlaagreat", sum := "ee147e8eecc419e4bf4e9969a4c5e5b5fd31cae7267b37404e29e957336bd9cc", func := "loop.example/wholecheck/laws.FnProductNext", spec := "fnProductNext", inPlace := ["slices.overlaps[[]int]"], unfollowed := true, recurses := true, apart := false }
def FnProductNextSaid : Prop := fnProductNextRow.holds Tryz.pinned (OpenSpec.ofChange fnProductNextSpec)

/-- ITS FALSE NEIGHBOUR: 'it returns false'. Refute it at one input. -/
def fnProductNextWrong : ChangeSpec := { name := "fnProductNext", fn := fun _ => fun
  | [d] => { results := [.lit (.bool false)], args := [d] }
  | _ => none }
def FnProductNextWrongFalsely : Prop := fnProductNextRow.holds Tryz.pinned (OpenSpec.ofChange fnProductNextWrong)

/-- 'laws.FnExactProductNext': WHATEVER THE INPUT: true; the input reads as it did. -/
def fnExactProductNextSpec : ChangeSpec := { name := "fnExactProductNext", fn := fun _ => fun
  | [d1, d2, d3, d4] => { results := [.lit (.bool true)], args := [d1, d2, d3, d4] }
  | _ => none }
def fnExactProductNextRow : OpenClaim := { program := "ytdcdnfcmllfmlaagreat", sum := "ee147e8eecc419e4bf4e9969a4c5e5b5fd31cae7267b37404e29e957336bd9cc", func := "loop.example/wholecheck/laws.FnExactProductNext", spec := "fnExactProductNext", inPlace := ["slices.overlaps[[]int]"], unfollowed := true, recurses := true, apart := false }
def FnExactProductNextSaid : Prop := fnExactProductNextRow.holds Tryz.pinned (OpenSpec.ofChange fnExactProductNextSpec)

/-- ITS FALSE NEIGHBOUR: 'it returns false'. Refute it at one input. -/
def fnExactProductNextWrong : ChangeSpec := { name := "fnExactProductNext", fn := fun _ => fun
  | [d1, d2, d3, d4] => { results := [.lit (.bool false)], args := [d1, d2, d3, d4] }
  | _ => none }
def FnExactProductNextWrongFalsely : Prop := fnExactProductNextRow.holds Tryz.pinned (OpenSpec.ofChange fnExactProductNextWrong)

/-- 'laws.FnCheckOver': WHATEVER THE INPUT: true; the input reads as it did. -/
def fnCheckOverSpec : ChangeSpec := { name := "fnCheckOver", fn := fun _ => fun
  | [d] => { results := [.lit (.bool true)], args := [d] }
  | _ => none }
def fnCheckOverRow : OpenClaim := { program := "ytdcdnfcmllfmlaagreat", sum := "ee147e8eecc419e4bf4e9969a4c5e5b5fd31cae7267b37404e29e957336bd9cc", func := "loop.example/wholecheck/laws.FnCheckOver", spec := "fnCheckOver", inPlace := ["slices.overlaps[[]int]"], unfollowed := true, recurses := true, apart := false }
def FnCheckOverSaid : Prop := fnCheckOverRow.holds Tryz.pinned (OpenSpec.ofChange fnCheckOverSpec)

/-- ITS FALSE NEIGHBOUR: 'it returns false'. Refute it at one input. -/
def fnCheckOverWrong : ChangeSpec := { name := "fnCheckOver", fn := fun _ => fun
  | [d] => { results := [.lit (.bool false)], args := [d] }
  | _ => none }
def FnCheckOverWrongFalsely : Prop := fnCheckOverRow.holds Tryz.pinned (OpenSpec.ofChange fnCheckOverWrong)

/-- 'laws.FnExactLooplessTo': WHATEVER THE INPUT: true; the input reads as it did. -/
def fnExactLooplessToSpec : ChangeSpec := { name := "fnExactLooplessTo", fn := fun _ => fun
  | [d1, d2, d3] => { results := [.lit (.bool true)], args := [d1, d2, d3] }
  | _ => none }
def fnExactLooplessToRow : OpenClaim := { program := "ytdcdnfcmllfmlaagreat", sum := "ee147e8eecc419e4bf4e9969a4c5e5b5fd31cae7267b37404e29e957336bd9cc", func := "loop.example/wholecheck/laws.FnExactLooplessTo", spec := "fnExactLooplessTo", inPlace := ["slices.overlaps[[]int]"], unfollowed := true, recurses := true, apart := false }
def FnExactLooplessToSaid : Prop := fnExactLooplessToRow.holds Tryz.pinned (OpenSpec.ofChange fnExactLooplessToSpec)

/-- ITS FALSE NEIGHBOUR: 'it returns false'. Refute it at one input. -/
def fnExactLooplessToWrong : ChangeSpec := { name := "fnExactLooplessTo", fn := fun _ => fun
  | [d1, d2, d3] => { results := [.lit (.bool false)], args := [d1, d2, d3] }
  | _ => none }
def FnExactLooplessToWrongFalsely : Prop := fnExactLooplessToRow.holds Tryz.pinned (OpenSpec.ofChange fnExactLooplessToWrong)

/- THE SECOND FORM. 'bulk': how many values and letters a reading holds, each counted each time it is reached (what is shared counts as often as it is met; a slice's spare places count too). A statement '..UptoSaid' is the law's where the arguments, and the package variables that the reading takes, are together of bulk at most 1048576: NARROWER than '..Said'. Prove '..Said' where nothing that the law and all that it calls make is longer than what came in: it says more and counts as full. Else prove '..UptoSaid'. A law counts once. -/
mutual
def uptoBulk {H : Type} : DataW H → Nat
  | .lit (.string bytes) => bytes.length + 1
  | .lit _ => 1
  | .nil => 1
  | .ptr d => uptoBulk d + 1
  | .slice elems spare => uptoBulkAll elems + uptoBulkAll spare + 1
  | .agg parts => uptoBulkAll parts + 1
  | .iface _ d => uptoBulk d + 1
  | .map entries => uptoBulkEntries entries + 1
  | .held _ => 1
def uptoBulkAll {H : Type} : List (DataW H) → Nat
  | [] => 0
  | d :: r => uptoBulk d + uptoBulkAll r
def uptoBulkEntries {H : Type} : List (Lit × DataW H) → Nat
  | [] => 0
  | x :: r => uptoBulkEntry x + uptoBulkEntries r
def uptoBulkEntry {H : Type} : Lit × DataW H → Nat
  | (.string bytes, d) => bytes.length + uptoBulk d + 1
  | (_, d) => uptoBulk d + 1
 end
def uptoSmall : (H : Type) → List (DataW H) → Bool := fun _ ds => decide (uptoBulkAll ds ≤ 1048576)
def OpenSpec.upto (s : _root_.Go.ChangeSpec) : _root_.Go.OpenSpec := { _root_.Go.OpenSpec.ofChange s with cond := some uptoSmall }

/-- 'laws.FnShortest', WHERE WHAT IT READS IS OF BULK AT MOST 1048576: true; the input reads as it did. -/
def fnShortestUptoRow : OpenClaim := { program := "ytdcdnfcmllfmlaagreat", sum := "ee147e8eecc419e4bf4e9969a4c5e5b5fd31cae7267b37404e29e957336bd9cc", func := "loop.example/wholecheck/laws.FnShortest", spec := "fnShortest", inPlace := ["slices.overlaps[[]int]"], unfollowed := true, recurses := true, apart := false, narrowed := true }
def FnShortestUptoSaid : Prop := fnShortestUptoRow.holds Tryz.pinned (OpenSpec.upto fnShortestSpec)

/-- 'laws.FnAlwaysOrWay', WHERE WHAT IT READS IS OF BULK AT MOST 1048576: true; the input reads as it did. -/
def fnAlwaysOrWayUptoRow : OpenClaim := { program := "ytdcdnfcmllfmlaagreat", sum := "ee147e8eecc419e4bf4e9969a4c5e5b5fd31cae7267b37404e29e957336bd9cc", func := "loop.example/wholecheck/laws.FnAlwaysOrWay", spec := "fnAlwaysOrWay", inPlace := ["slices.overlaps[[]int]"], unfollowed := true, recurses := true, apart := false, narrowed := true }
def FnAlwaysOrWayUptoSaid : Prop := fnAlwaysOrWayUptoRow.holds Tryz.pinned (OpenSpec.upto fnAlwaysOrWaySpec)

/-- 'laws.FnProductNext', WHERE WHAT IT READS IS OF BULK AT MOST 1048576: true; the input reads as it did. -/
def fnProductNextUptoRow : OpenClaim := { program := "ytdcdnfcmllfmlaagreat", sum := "ee147e8eecc419e4bf4e9969a4c5e5b5fd31cae7267b37404e29e957336bd9cc", func := "loop.example/wholecheck/laws.FnProductNext", spec := "fnProductNext", inPlace := ["slices.overlaps[[]int]"], unfollowed := true, recurses := true, apart := false, narrowed := true }
def FnProductNextUptoSaid : Prop := fnProductNextUptoRow.holds Tryz.pinned (OpenSpec.upto fnProductNextSpec)

/-- 'laws.FnExactProductNext', WHERE WHAT IT READS IS OF BULK AT MOST 1048576: true; the input reads as it did. -/
def fnExactProductNextUptoRow : OpenClaim := { program := "ytdcdnfcmllfmlaagreat", sum := "ee147e8eecc419e4bf4e9969a4c5e5b5fd31cae7267b37404e29e957336bd9cc", func := "loop.example/wholecheck/laws.FnExactProductNext", spec := "fnExactProductNext", inPlace := ["slices.overlaps[[]int]"], unfollowed := true, recurses := true, apart := false, narrowed := true }
def FnExactProductNextUptoSaid : Prop := fnExactProductNextUptoRow.holds Tryz.pinned (OpenSpec.upto fnExactProductNextSpec)

/-- 'laws.FnCheckOver', WHERE WHAT IT READS IS OF BULK AT MOST 1048576: true; the input reads as it did. -/
def fnCheckOverUptoRow : OpenClaim := { program := "ytdcdnfcmllfmlaagreat", sum := "ee147e8eecc419e4bf4e9969a4c5e5b5fd31cae7267b37404e29e957336bd9cc", func := "loop.example/wholecheck/laws.FnCheckOver", spec := "fnCheckOver", inPlace := ["slices.overlaps[[]int]"], unfollowed := true, recurses := true, apart := false, narrowed := true }
def FnCheckOverUptoSaid : Prop := fnCheckOverUptoRow.holds Tryz.pinned (OpenSpec.upto fnCheckOverSpec)

/-- 'laws.FnExactLooplessTo', WHERE WHAT IT READS IS OF BULK AT MOST 1048576: true; the input reads as it did. -/
def fnExactLooplessToUptoRow : OpenClaim := { program := "ytdcdnfcmllfmlaagreat", sum := "ee147e8eecc419e4bf4e9969a4c5e5b5fd31cae7267b37404e29e957336bd9cc", func := "loop.example/wholecheck/laws.FnExactLooplessTo", spec := "fnExactLooplessTo", inPlace := ["slices.overlaps[[]int]"], unfollowed := true, recurses := true, apart := false, narrowed := true }
def FnExactLooplessToUptoSaid : Prop := fnExactLooplessToUptoRow.holds Tryz.pinned (OpenSpec.upto fnExactLooplessToSpec)

end Rows
end Go.Proofs.YtdcdnfcmllfmlaaGreat
