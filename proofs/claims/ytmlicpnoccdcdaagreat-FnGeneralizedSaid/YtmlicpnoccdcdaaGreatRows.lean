/-
  No cell of these rows narrows 'for every input' (looked for: loops, veiled, ifaces, maps, wideKeys, modest, calm, conditions, laid).
  DERIVED. THE GIVEN ROWS OF THIS SEAT. 6 by the template 'for every input the law returns true; each argument reads behind the call as it read before'; 0 by the template 'total and deterministic' (their statements: YtmlicpnoccdcdaaGreatTotals.lean).
  GIVEN WITH THE SEED: the statements are not yours to turn. If you find one false, say at which input.
  Laid BY PROGRAM, IN A SANDBOX (cutbox-rows.mjs): the forced cells as the released guide's own fill.sh prints them over the translation 9601e933a9256b8f… (all of the seat's roots in one cut). By AI agents, Wed Nov 11 2026. No macro, syntax, notation, axiom, sorry.
-/
import Derived.Test.YtmlicpnoccdcdaaGreatChecked
import GoSem.Claim
import GoSem.ClaimJoined
import GoSem.ClaimMapViews
import Derived.JoinedTies
import Derived.KernelRfl
namespace Go.Proofs.YtmlicpnoccdcdaaGreat
/- THE CELL 'sum', in the pinned program and in every row, IS THE sha256 OF THE DUMP (.gsa) THAT YtmlicpnoccdcdaaGreatProg.lean LOADS. Nothing in Lean hashes anything: it is a label: what it is worth is what the hold of that sum in a sandbox is worth. -/
noncomputable def Tryz.pinned : Pinned := { name := "ytmlicpnoccdcdaagreat", sum := "9601e933a9256b8f87ebcd8c1cea1b21eddb8e37121b6edaa63ec7eab5c64aef", checked := Tryz.checked }
namespace Rows
def none {H : Type} : Left H := { results := [], args := [] }

/-- 'laws.FnReachBy': WHATEVER THE INPUT: true; the input reads as it did. -/
def fnReachBySpec : ChangeSpec := { name := "fnReachBy", fn := fun _ => fun
  | [d] => { results := [.lit (.bool true)], args := [d] }
  | _ => none }
def fnReachByRow : OpenClaim := { program := "ytmlicpnoccdcdaagreat", sum := "9601e933a9256b8f87ebcd8c1cea1b21eddb8e37121b6edaa63ec7eab5c64aef", func := "loop.example/wholecheck/laws.FnReachBy", spec := "fnReachBy", inPlace := ["slices.overlaps[[]int]"], unfollowed := true, recurses := true, apart := false }
def FnReachBySaid : Prop := fnReachByRow.holds Tryz.pinned (OpenSpec.ofChange fnReachBySpec)

/-- ITS FALSE NEIGHBOUR: 'it returns false'. Refute it at one input. -/
def fnReachByWrong : ChangeSpec := { name := "fnReachBy", fn := fun _ => fun
  | [d] => { results := [.lit (.bool false)], args := [d] }
  | _ => none }
def FnReachByWrongFalsely : Prop := fnReachByRow.holds Tryz.pinned (OpenSpec.ofChange fnReachByWrong)

/-- 'laws.FnAlwaysBy': WHATEVER THE INPUT: true; the input reads as it did. -/
def fnAlwaysBySpec : ChangeSpec := { name := "fnAlwaysBy", fn := fun _ => fun
  | [d] => { results := [.lit (.bool true)], args := [d] }
  | _ => none }
def fnAlwaysByRow : OpenClaim := { program := "ytmlicpnoccdcdaagreat", sum := "9601e933a9256b8f87ebcd8c1cea1b21eddb8e37121b6edaa63ec7eab5c64aef", func := "loop.example/wholecheck/laws.FnAlwaysBy", spec := "fnAlwaysBy", inPlace := ["slices.overlaps[[]int]"], unfollowed := true, recurses := true, apart := false }
def FnAlwaysBySaid : Prop := fnAlwaysByRow.holds Tryz.pinned (OpenSpec.ofChange fnAlwaysBySpec)

/-- ITS FALSE NEIGHBOUR: 'it returns false'. Refute it at one input. -/
def fnAlwaysByWrong : ChangeSpec := { name := "fnAlwaysBy", fn := fun _ => fun
  | [d] => { results := [.lit (.bool false)], args := [d] }
  | _ => none }
def FnAlwaysByWrongFalsely : Prop := fnAlwaysByRow.holds Tryz.pinned (OpenSpec.ofChange fnAlwaysByWrong)

/-- 'laws.FnClosedReach': WHATEVER THE INPUT: true; the input reads as it did. -/
def fnClosedReachSpec : ChangeSpec := { name := "fnClosedReach", fn := fun _ => fun
  | [d] => { results := [.lit (.bool true)], args := [d] }
  | _ => none }
def fnClosedReachRow : OpenClaim := { program := "ytmlicpnoccdcdaagreat", sum := "9601e933a9256b8f87ebcd8c1cea1b21eddb8e37121b6edaa63ec7eab5c64aef", func := "loop.example/wholecheck/laws.FnClosedReach", spec := "fnClosedReach", inPlace := ["slices.overlaps[[]int]"], unfollowed := true, recurses := true, apart := false }
def FnClosedReachSaid : Prop := fnClosedReachRow.holds Tryz.pinned (OpenSpec.ofChange fnClosedReachSpec)

/-- ITS FALSE NEIGHBOUR: 'it returns false'. Refute it at one input. -/
def fnClosedReachWrong : ChangeSpec := { name := "fnClosedReach", fn := fun _ => fun
  | [d] => { results := [.lit (.bool false)], args := [d] }
  | _ => none }
def FnClosedReachWrongFalsely : Prop := fnClosedReachRow.holds Tryz.pinned (OpenSpec.ofChange fnClosedReachWrong)

/-- 'laws.FnShownWithin': WHATEVER THE INPUT: true; the input reads as it did. -/
def fnShownWithinSpec : ChangeSpec := { name := "fnShownWithin", fn := fun _ => fun
  | [d] => { results := [.lit (.bool true)], args := [d] }
  | _ => none }
def fnShownWithinRow : OpenClaim := { program := "ytmlicpnoccdcdaagreat", sum := "9601e933a9256b8f87ebcd8c1cea1b21eddb8e37121b6edaa63ec7eab5c64aef", func := "loop.example/wholecheck/laws.FnShownWithin", spec := "fnShownWithin", inPlace := ["slices.overlaps[[]int]"], unfollowed := true, recurses := true, apart := false }
def FnShownWithinSaid : Prop := fnShownWithinRow.holds Tryz.pinned (OpenSpec.ofChange fnShownWithinSpec)

/-- ITS FALSE NEIGHBOUR: 'it returns false'. Refute it at one input. -/
def fnShownWithinWrong : ChangeSpec := { name := "fnShownWithin", fn := fun _ => fun
  | [d] => { results := [.lit (.bool false)], args := [d] }
  | _ => none }
def FnShownWithinWrongFalsely : Prop := fnShownWithinRow.holds Tryz.pinned (OpenSpec.ofChange fnShownWithinWrong)

/-- 'laws.FnBlockedBy': WHATEVER THE INPUT: true; the input reads as it did. -/
def fnBlockedBySpec : ChangeSpec := { name := "fnBlockedBy", fn := fun _ => fun
  | [d] => { results := [.lit (.bool true)], args := [d] }
  | _ => none }
def fnBlockedByRow : OpenClaim := { program := "ytmlicpnoccdcdaagreat", sum := "9601e933a9256b8f87ebcd8c1cea1b21eddb8e37121b6edaa63ec7eab5c64aef", func := "loop.example/wholecheck/laws.FnBlockedBy", spec := "fnBlockedBy", inPlace := ["slices.overlaps[[]int]"], unfollowed := true, recurses := true, apart := false }
def FnBlockedBySaid : Prop := fnBlockedByRow.holds Tryz.pinned (OpenSpec.ofChange fnBlockedBySpec)

/-- ITS FALSE NEIGHBOUR: 'it returns false'. Refute it at one input. -/
def fnBlockedByWrong : ChangeSpec := { name := "fnBlockedBy", fn := fun _ => fun
  | [d] => { results := [.lit (.bool false)], args := [d] }
  | _ => none }
def FnBlockedByWrongFalsely : Prop := fnBlockedByRow.holds Tryz.pinned (OpenSpec.ofChange fnBlockedByWrong)

/-- 'laws.FnGeneralized': WHATEVER THE INPUT: true; the input reads as it did. -/
def fnGeneralizedSpec : ChangeSpec := { name := "fnGeneralized", fn := fun _ => fun
  | [d] => { results := [.lit (.bool true)], args := [d] }
  | _ => none }
def fnGeneralizedRow : OpenClaim := { program := "ytmlicpnoccdcdaagreat", sum := "9601e933a9256b8f87ebcd8c1cea1b21eddb8e37121b6edaa63ec7eab5c64aef", func := "loop.example/wholecheck/laws.FnGeneralized", spec := "fnGeneralized", inPlace := ["slices.overlaps[[]int]"], unfollowed := true, recurses := true, apart := false }
def FnGeneralizedSaid : Prop := fnGeneralizedRow.holds Tryz.pinned (OpenSpec.ofChange fnGeneralizedSpec)

/-- ITS FALSE NEIGHBOUR: 'it returns false'. Refute it at one input. -/
def fnGeneralizedWrong : ChangeSpec := { name := "fnGeneralized", fn := fun _ => fun
  | [d] => { results := [.lit (.bool false)], args := [d] }
  | _ => none }
def FnGeneralizedWrongFalsely : Prop := fnGeneralizedRow.holds Tryz.pinned (OpenSpec.ofChange fnGeneralizedWrong)

/- THE SECOND FORM. 'bulk': how many values and letters a reading holds, each counted each time it is reached (what is shared counts as often as it is met; a slice's spare places count too). A statement '..UptoSaid' is the law's where the arguments, and the package variables that the reading takes, are together of bulk at most 1048576: NARROWER than '..Said'. Prove '..Said' where nothing that the law and all that it calls make is longer than what came in: it says more and counts as full. Else prove '..UptoSaid'. A law counts once. -/
mutual
def uptoBulk {H : Type} : DataW H → Nat
  | .lit (.string bytes) => bytes.length + 1
  | .lit _ => 1
  | .nil => 1
  | .ptr d => uptoBulk d + 1
  | .slice elems spare => uptoBulkAll elems + uptoBulkAll spare + 1
  | .agg parts => uptoBulkAll parts + 1
  | .iface _ d => uptoBulk d + 1
  | .map entries => uptoBulkEntries entries + 1
  | .held _ => 1
def uptoBulkAll {H : Type} : List (DataW H) → Nat
  | [] => 0
  | d :: r => uptoBulk d + uptoBulkAll r
def uptoBulkEntries {H : Type} : List (Lit × DataW H) → Nat
  | [] => 0
  | x :: r => uptoBulkEntry x + uptoBulkEntries r
def uptoBulkEntry {H : Type} : Lit × DataW H → Nat
  | (.string bytes, d) => bytes.length + uptoBulk d + 1
  | (_, d) => uptoBulk d + 1
 end
def uptoSmall : (H : Type) → List (DataW H) → Bool := fun _ ds => decide (uptoBulkAll ds ≤ 1048576)
def OpenSpec.upto (s : _root_.Go.ChangeSpec) : _root_.Go.OpenSpec := { _root_.Go.OpenSpec.ofChange s with cond := some uptoSmall }

/-- 'laws.FnReachBy', WHERE WHAT IT READS IS OF BULK AT MOST 1048576: true; the input reads as it did. -/
def fnReachByUptoRow : OpenClaim := { program := "ytmlicpnoccdcdaagreat", sum := "9601e933a9256b8f87ebcd8c1cea1b21eddb8e37121b6edaa63ec7eab5c64aef", func := "loop.example/wholecheck/laws.FnReachBy", spec := "fnReachBy", inPlace := ["slices.overlaps[[]int]"], unfollowed := true, recurses := true, apart := false, narrowed := true }
def FnReachByUptoSaid : Prop := fnReachByUptoRow.holds Tryz.pinned (OpenSpec.upto fnReachBySpec)

/-- 'laws.FnAlwaysBy', WHERE WHAT IT READS IS OF BULK AT MOST 1048576: true; the input reads as it did. -/
def fnAlwaysByUptoRow : OpenClaim := { program := "ytmlicpnoccdcdaagreat", sum := "9601e933a9256b8f87ebcd8c1cea1b21eddb8e37121b6edaa63ec7eab5c64aef", func := "loop.example/wholecheck/laws.FnAlwaysBy", spec := "fnAlwaysBy", inPlace := ["slices.overlaps[[]int]"], unfollowed := true, recurses := true, apart := false, narrowed := true }
def FnAlwaysByUptoSaid : Prop := fnAlwaysByUptoRow.holds Tryz.pinned (OpenSpec.upto fnAlwaysBySpec)

/-- 'laws.FnClosedReach', WHERE WHAT IT READS IS OF BULK AT MOST 1048576: true; the input reads as it did. -/
def fnClosedReachUptoRow : OpenClaim := { program := "ytmlicpnoccdcdaagreat", sum := "9601e933a9256b8f87ebcd8c1cea1b21eddb8e37121b6edaa63ec7eab5c64aef", func := "loop.example/wholecheck/laws.FnClosedReach", spec := "fnClosedReach", inPlace := ["slices.overlaps[[]int]"], unfollowed := true, recurses := true, apart := false, narrowed := true }
def FnClosedReachUptoSaid : Prop := fnClosedReachUptoRow.holds Tryz.pinned (OpenSpec.upto fnClosedReachSpec)

/-- 'laws.FnShownWithin', WHERE WHAT IT READS IS OF BULK AT MOST 1048576: true; the input reads as it did. -/
def fnShownWithinUptoRow : OpenClaim := { program := "ytmlicpnoccdcdaagreat", sum := "9601e933a9256b8f87ebcd8c1cea1b21eddb8e37121b6edaa63ec7eab5c64aef", func := "loop.example/wholecheck/laws.FnShownWithin", spec := "fnShownWithin", inPlace := ["slices.overlaps[[]int]"], unfollowed := true, recurses := true, apart := false, narrowed := true }
def FnShownWithinUptoSaid : Prop := fnShownWithinUptoRow.holds Tryz.pinned (OpenSpec.upto fnShownWithinSpec)

/-- 'laws.FnBlockedBy', WHERE WHAT IT READS IS OF BULK AT MOST 1048576: true; the input reads as it did. -/
def fnBlockedByUptoRow : OpenClaim := { program := "ytmlicpnoccdcdaagreat", sum := "9601e933a9256b8f87ebcd8c1cea1b21eddb8e37121b6edaa63ec7eab5c64aef", func := "loop.example/wholecheck/laws.FnBlockedBy", spec := "fnBlockedBy", inPlace := ["slices.overlaps[[]int]"], unfollowed := true, recurses := true, apart := false, narrowed := true }
def FnBlockedByUptoSaid : Prop := fnBlockedByUptoRow.holds Tryz.pinned (OpenSpec.upto fnBlockedBySpec)

/-- 'laws.FnGeneralized', WHERE WHAT IT READS IS OF BULK AT MOST 1048576: true; the input reads as it did. -/
def fnGeneralizedUptoRow : OpenClaim := { program := "ytmlicpnoccdcdaagreat", sum := "9601e933a9256b8f87ebcd8c1cea1b21eddb8e37121b6edaa63ec7eab5c64aef", func := "loop.example/wholecheck/laws.FnGeneralized", spec := "fnGeneralized", inPlace := ["slices.overlaps[[]int]"], unfollowed := true, recurses := true, apart := false, narrowed := true }
def FnGeneralizedUptoSaid : Prop := fnGeneralizedUptoRow.holds Tryz.pinned (OpenSpec.upto fnGeneralizedSpec)

end Rows
end Go.Proofs.YtmlicpnoccdcdaaGreat
