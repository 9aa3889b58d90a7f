/-
  No cell of these rows narrows 'for every input' (looked for: loops, veiled, ifaces, maps, wideKeys, modest, calm, conditions, laid).
  DERIVED. THE GIVEN ROWS OF THIS SEAT. 6 by the template 'for every input the law returns true; each argument reads behind the call as it read before'; 0 by the template 'total and deterministic' (their statements: YthcpmnejbncckaaGreatTotals.lean).
  GIVEN WITH THE SEED: the statements are not yours to turn. If you find one false, say at which input.
  Laid BY PROGRAM, IN A SANDBOX (cutbox-rows.mjs): the forced cells as the released guide's own fill.sh prints them over the translation 7120a51d0fd00466… (all of the seat's roots in one cut). By AI agents, Wed Nov 11 2026. No macro, syntax, notation, axiom, sorry.
-/
import Derived.Test.YthcpmnejbncckaaGreatChecked
import GoSem.Claim
import GoSem.ClaimJoined
import GoSem.ClaimMapViews
import Derived.JoinedTies
import Derived.KernelRfl
namespace Go.Proofs.YthcpmnejbncckaaGreat
/- THE CELL 'sum', in the pinned program and in every row, IS THE sha256 OF THE DUMP (.gsa) THAT YthcpmnejbncckaaGreatProg.lean LOADS. Nothing in Lean hashes anything: it is a label: what it is worth is what the hold of that sum in a sandbox is worth. -/
noncomputable def Tryz.pinned : Pinned := { name := "ythcpmnejbncckaagreat", sum := "7120a51d0fd00466be7642526c648f19f088a5b50e507cadf101678543a6050b", checked := Tryz.checked }
namespace Rows
def none {H : Type} : Left H := { results := [], args := [] }

/-- 'laws.FnExactImageBy': WHATEVER THE INPUT: true; the input reads as it did. -/
def fnExactImageBySpec : ChangeSpec := { name := "fnExactImageBy", fn := fun _ => fun
  | [d1, d2] => { results := [.lit (.bool true)], args := [d1, d2] }
  | _ => none }
def fnExactImageByRow : OpenClaim := { program := "ythcpmnejbncckaagreat", sum := "7120a51d0fd00466be7642526c648f19f088a5b50e507cadf101678543a6050b", func := "loop.example/wholecheck/laws.FnExactImageBy", spec := "fnExactImageBy", inPlace := ["slices.overlaps[[]int]"], unfollowed := true, recurses := true, apart := false }
def FnExactImageBySaid : Prop := fnExactImageByRow.holds Tryz.pinned (OpenSpec.ofChange fnExactImageBySpec)

/-- ITS FALSE NEIGHBOUR: 'it returns false'. Refute it at one input. -/
def fnExactImageByWrong : ChangeSpec := { name := "fnExactImageBy", fn := fun _ => fun
  | [d1, d2] => { results := [.lit (.bool false)], args := [d1, d2] }
  | _ => none }
def FnExactImageByWrongFalsely : Prop := fnExactImageByRow.holds Tryz.pinned (OpenSpec.ofChange fnExactImageByWrong)

/-- 'laws.FnExactCanReach': WHATEVER THE INPUT: true; the input reads as it did. -/
def fnExactCanReachSpec : ChangeSpec := { name := "fnExactCanReach", fn := fun _ => fun
  | [d1, d2] => { results := [.lit (.bool true)], args := [d1, d2] }
  | _ => none }
def fnExactCanReachRow : OpenClaim := { program := "ythcpmnejbncckaagreat", sum := "7120a51d0fd00466be7642526c648f19f088a5b50e507cadf101678543a6050b", func := "loop.example/wholecheck/laws.FnExactCanReach", spec := "fnExactCanReach", inPlace := ["slices.overlaps[[]int]"], unfollowed := true, recurses := true, apart := false }
def FnExactCanReachSaid : Prop := fnExactCanReachRow.holds Tryz.pinned (OpenSpec.ofChange fnExactCanReachSpec)

/-- ITS FALSE NEIGHBOUR: 'it returns false'. Refute it at one input. -/
def fnExactCanReachWrong : ChangeSpec := { name := "fnExactCanReach", fn := fun _ => fun
  | [d1, d2] => { results := [.lit (.bool false)], args := [d1, d2] }
  | _ => none }
def FnExactCanReachWrongFalsely : Prop := fnExactCanReachRow.holds Tryz.pinned (OpenSpec.ofChange fnExactCanReachWrong)

/-- 'laws.FnExactAheadWithin': WHATEVER THE INPUT: true; the input reads as it did. -/
def fnExactAheadWithinSpec : ChangeSpec := { name := "fnExactAheadWithin", fn := fun _ => fun
  | [d1, d2, d3] => { results := [.lit (.bool true)], args := [d1, d2, d3] }
  | _ => none }
def fnExactAheadWithinRow : OpenClaim := { program := "ythcpmnejbncckaagreat", sum := "7120a51d0fd00466be7642526c648f19f088a5b50e507cadf101678543a6050b", func := "loop.example/wholecheck/laws.FnExactAheadWithin", spec := "fnExactAheadWithin", inPlace := ["slices.overlaps[[]int]"], unfollowed := true, recurses := true, apart := false }
def FnExactAheadWithinSaid : Prop := fnExactAheadWithinRow.holds Tryz.pinned (OpenSpec.ofChange fnExactAheadWithinSpec)

/-- ITS FALSE NEIGHBOUR: 'it returns false'. Refute it at one input. -/
def fnExactAheadWithinWrong : ChangeSpec := { name := "fnExactAheadWithin", fn := fun _ => fun
  | [d1, d2, d3] => { results := [.lit (.bool false)], args := [d1, d2, d3] }
  | _ => none }
def FnExactAheadWithinWrongFalsely : Prop := fnExactAheadWithinRow.holds Tryz.pinned (OpenSpec.ofChange fnExactAheadWithinWrong)

/-- 'laws.FnExactPastBy': WHATEVER THE INPUT: true; the input reads as it did. -/
def fnExactPastBySpec : ChangeSpec := { name := "fnExactPastBy", fn := fun _ => fun
  | [d1, d2] => { results := [.lit (.bool true)], args := [d1, d2] }
  | _ => none }
def fnExactPastByRow : OpenClaim := { program := "ythcpmnejbncckaagreat", sum := "7120a51d0fd00466be7642526c648f19f088a5b50e507cadf101678543a6050b", func := "loop.example/wholecheck/laws.FnExactPastBy", spec := "fnExactPastBy", inPlace := ["slices.overlaps[[]int]"], unfollowed := true, recurses := true, apart := false }
def FnExactPastBySaid : Prop := fnExactPastByRow.holds Tryz.pinned (OpenSpec.ofChange fnExactPastBySpec)

/-- ITS FALSE NEIGHBOUR: 'it returns false'. Refute it at one input. -/
def fnExactPastByWrong : ChangeSpec := { name := "fnExactPastBy", fn := fun _ => fun
  | [d1, d2] => { results := [.lit (.bool false)], args := [d1, d2] }
  | _ => none }
def FnExactPastByWrongFalsely : Prop := fnExactPastByRow.holds Tryz.pinned (OpenSpec.ofChange fnExactPastByWrong)

/-- 'laws.FnExactBlockedBy': WHATEVER THE INPUT: true; the input reads as it did. -/
def fnExactBlockedBySpec : ChangeSpec := { name := "fnExactBlockedBy", fn := fun _ => fun
  | [d1, d2, d3] => { results := [.lit (.bool true)], args := [d1, d2, d3] }
  | _ => none }
def fnExactBlockedByRow : OpenClaim := { program := "ythcpmnejbncckaagreat", sum := "7120a51d0fd00466be7642526c648f19f088a5b50e507cadf101678543a6050b", func := "loop.example/wholecheck/laws.FnExactBlockedBy", spec := "fnExactBlockedBy", inPlace := ["slices.overlaps[[]int]"], unfollowed := true, recurses := true, apart := false }
def FnExactBlockedBySaid : Prop := fnExactBlockedByRow.holds Tryz.pinned (OpenSpec.ofChange fnExactBlockedBySpec)

/-- ITS FALSE NEIGHBOUR: 'it returns false'. Refute it at one input. -/
def fnExactBlockedByWrong : ChangeSpec := { name := "fnExactBlockedBy", fn := fun _ => fun
  | [d1, d2, d3] => { results := [.lit (.bool false)], args := [d1, d2, d3] }
  | _ => none }
def FnExactBlockedByWrongFalsely : Prop := fnExactBlockedByRow.holds Tryz.pinned (OpenSpec.ofChange fnExactBlockedByWrong)

/-- 'laws.FnExactGeneralized': WHATEVER THE INPUT: true; the input reads as it did. -/
def fnExactGeneralizedSpec : ChangeSpec := { name := "fnExactGeneralized", fn := fun _ => fun
  | [d1, d2, d3] => { results := [.lit (.bool true)], args := [d1, d2, d3] }
  | _ => none }
def fnExactGeneralizedRow : OpenClaim := { program := "ythcpmnejbncckaagreat", sum := "7120a51d0fd00466be7642526c648f19f088a5b50e507cadf101678543a6050b", func := "loop.example/wholecheck/laws.FnExactGeneralized", spec := "fnExactGeneralized", inPlace := ["slices.overlaps[[]int]"], unfollowed := true, recurses := true, apart := false }
def FnExactGeneralizedSaid : Prop := fnExactGeneralizedRow.holds Tryz.pinned (OpenSpec.ofChange fnExactGeneralizedSpec)

/-- ITS FALSE NEIGHBOUR: 'it returns false'. Refute it at one input. -/
def fnExactGeneralizedWrong : ChangeSpec := { name := "fnExactGeneralized", fn := fun _ => fun
  | [d1, d2, d3] => { results := [.lit (.bool false)], args := [d1, d2, d3] }
  | _ => none }
def FnExactGeneralizedWrongFalsely : Prop := fnExactGeneralizedRow.holds Tryz.pinned (OpenSpec.ofChange fnExactGeneralizedWrong)

/- THE SECOND FORM. 'bulk': how many values and letters a reading holds, each counted each time it is reached (what is shared counts as often as it is met; a slice's spare places count too). A statement '..UptoSaid' is the law's where the arguments, and the package variables that the reading takes, are together of bulk at most 1048576: NARROWER than '..Said'. Prove '..Said' where nothing that the law and all that it calls make is longer than what came in: it says more and counts as full. Else prove '..UptoSaid'. A law counts once. -/
mutual
def uptoBulk {H : Type} : DataW H → Nat
  | .lit (.string bytes) => bytes.length + 1
  | .lit _ => 1
  | .nil => 1
  | .ptr d => uptoBulk d + 1
  | .slice elems spare => uptoBulkAll elems + uptoBulkAll spare + 1
  | .agg parts => uptoBulkAll parts + 1
  | .iface _ d => uptoBulk d + 1
  | .map entries => uptoBulkEntries entries + 1
  | .held _ => 1
def uptoBulkAll {H : Type} : List (DataW H) → Nat
  | [] => 0
  | d :: r => uptoBulk d + uptoBulkAll r
def uptoBulkEntries {H : Type} : List (Lit × DataW H) → Nat
  | [] => 0
  | x :: r => uptoBulkEntry x + uptoBulkEntries r
def uptoBulkEntry {H : Type} : Lit × DataW H → Nat
  | (.string bytes, d) => bytes.length + uptoBulk d + 1
  | (_, d) => uptoBulk d + 1
 end
def uptoSmall : (H : Type) → List (DataW H) → Bool := fun _ ds => decide (uptoBulkAll ds ≤ 1048576)
def OpenSpec.upto (s : _root_.Go.ChangeSpec) : _root_.Go.OpenSpec := { _root_.Go.OpenSpec.ofChange s with cond := some uptoSmall }

/-- 'laws.FnExactImageBy', WHERE WHAT IT READS IS OF BULK AT MOST 1048576: true; the input reads as it did. -/
def fnExactImageByUptoRow : OpenClaim := { program := "ythcpmnejbncckaagreat", sum := "7120a51d0fd00466be7642526c648f19f088a5b50e507cadf101678543a6050b", func := "loop.example/wholecheck/laws.FnExactImageBy", spec := "fnExactImageBy", inPlace := ["slices.overlaps[[]int]"], unfollowed := true, recurses := true, apart := false, narrowed := true }
def FnExactImageByUptoSaid : Prop := fnExactImageByUptoRow.holds Tryz.pinned (OpenSpec.upto fnExactImageBySpec)

/-- 'laws.FnExactCanReach', WHERE WHAT IT READS IS OF BULK AT MOST 1048576: true; the input reads as it did. -/
def fnExactCanReachUptoRow : OpenClaim := { program := "ythcpmnejbncckaagreat", sum := "7120a51d0fd00466be7642526c648f19f088a5b50e507cadf101678543a6050b", func := "loop.example/wholecheck/laws.FnExactCanReach", spec := "fnExactCanReach", inPlace := ["slices.overlaps[[]int]"], unfollowed := true, recurses := true, apart := false, narrowed := true }
def FnExactCanReachUptoSaid : Prop := fnExactCanReachUptoRow.holds Tryz.pinned (OpenSpec.upto fnExactCanReachSpec)

/-- 'laws.FnExactAheadWithin', WHERE WHAT IT READS IS OF BULK AT MOST 1048576: true; the input reads as it did. -/
def fnExactAheadWithinUptoRow : OpenClaim := { program := "ythcpmnejbncckaagreat", sum := "7120a51d0fd00466be7642526c648f19f088a5b50e507cadf101678543a6050b", func := "loop.example/wholecheck/laws.FnExactAheadWithin", spec := "fnExactAheadWithin", inPlace := ["slices.overlaps[[]int]"], unfollowed := true, recurses := true, apart := false, narrowed := true }
def FnExactAheadWithinUptoSaid : Prop := fnExactAheadWithinUptoRow.holds Tryz.pinned (OpenSpec.upto fnExactAheadWithinSpec)

/-- 'laws.FnExactPastBy', WHERE WHAT IT READS IS OF BULK AT MOST 1048576: true; the input reads as it did. -/
def fnExactPastByUptoRow : OpenClaim := { program := "ythcpmnejbncckaagreat", sum := "7120a51d0fd00466be7642526c648f19f088a5b50e507cadf101678543a6050b", func := "loop.example/wholecheck/laws.FnExactPastBy", spec := "fnExactPastBy", inPlace := ["slices.overlaps[[]int]"], unfollowed := true, recurses := true, apart := false, narrowed := true }
def FnExactPastByUptoSaid : Prop := fnExactPastByUptoRow.holds Tryz.pinned (OpenSpec.upto fnExactPastBySpec)

/-- 'laws.FnExactBlockedBy', WHERE WHAT IT READS IS OF BULK AT MOST 1048576: true; the input reads as it did. -/
def fnExactBlockedByUptoRow : OpenClaim := { program := "ythcpmnejbncckaagreat", sum := "7120a51d0fd00466be7642526c648f19f088a5b50e507cadf101678543a6050b", func := "loop.example/wholecheck/laws.FnExactBlockedBy", spec := "fnExactBlockedBy", inPlace := ["slices.overlaps[[]int]"], unfollowed := true, recurses := true, apart := false, narrowed := true }
def FnExactBlockedByUptoSaid : Prop := fnExactBlockedByUptoRow.holds Tryz.pinned (OpenSpec.upto fnExactBlockedBySpec)

/-- 'laws.FnExactGeneralized', WHERE WHAT IT READS IS OF BULK AT MOST 1048576: true; the input reads as it did. -/
def fnExactGeneralizedUptoRow : OpenClaim := { program := "ythcpmnejbncckaagreat", sum := "7120a51d0fd00466be7642526c648f19f088a5b50e507cadf101678543a6050b", func := "loop.example/wholecheck/laws.FnExactGeneralized", spec := "fnExactGeneralized", inPlace := ["slices.overlaps[[]int]"], unfollowed := true, recurses := true, apart := false, narrowed := true }
def FnExactGeneralizedUptoSaid : Prop := fnExactGeneralizedUptoRow.holds Tryz.pinned (OpenSpec.upto fnExactGeneralizedSpec)

end Rows
end Go.Proofs.YthcpmnejbncckaaGreat
