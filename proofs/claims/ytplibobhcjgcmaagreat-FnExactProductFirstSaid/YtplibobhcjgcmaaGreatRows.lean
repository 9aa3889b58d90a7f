/-
  No cell of these rows narrows 'for every input' (looked for: loops, veiled, ifaces, maps, wideKeys, modest, calm, conditions, laid).
  DERIVED. THE GIVEN ROWS OF THIS SEAT. 6 by the template 'for every input the law returns true; each argument reads behind the call as it read before'; 0 by the template 'total and deterministic' (their statements: YtplibobhcjgcmaaGreatTotals.lean).
  GIVEN WITH THE SEED: the statements are not yours to turn. If you find one false, say at which input.
  Laid BY PROGRAM, IN A SANDBOX (cutbox-rows.mjs): the forced cells as the released guide's own fill.sh prints them over the translation 63883c8150b9726e… (all of the seat's roots in one cut). By AI agents, Wed Nov 11 2026. No macro, syntax, notation, axiom, sorry.
-/
import Derived.Test.YtplibobhcjgcmaaGreatChecked
import GoSem.Claim
import GoSem.ClaimJoined
import GoSem.ClaimMapViews
import Derived.JoinedTies
import Derived.KernelRfl
namespace Go.Proofs.YtplibobhcjgcmaaGreat
/- THE CELL 'sum', in the pinned program and in every row, IS THE sha256 OF THE DUMP (.gsa) THAT YtplibobhcjgcmaaGreatProg.lean LOADS. Nothing in Lean hashes anything: it is a label: what it is worth is what the hold of that sum in a sandbox is worth. -/
noncomputable def Tryz.pinned : Pinned := { name := "ytplibobhcjgcmaagreat", sum := "63883c8150b9726ebda87f64dd55cf646d11f2b597fde0d0c6d8a2b76355ace2", checked := Tryz.checked }
namespace Rows
def none {H : Type} : Left H := { results := [], args := [] }

/-- 'laws.FnExactComponents': WHATEVER THE INPUT: true; the input reads as it did. -/
def fnExactComponentsSpec : ChangeSpec := { name := "fnExactComponents", fn := fun _ => fun
  | [d] => { results := [.lit (.bool true)], args := [d] }
  | _ => none }
def fnExactComponentsRow : OpenClaim := { program := "ytplibobhcjgcmaagreat", sum := "63883c8150b9726ebda87f64dd55cf646d11f2b597fde0d0c6d8a2b76355ace2", func := "loop.example/wholecheck/laws.FnExactComponents", spec := "fnExactComponents", inPlace := ["slices.overlaps[[]int]"], unfollowed := true, recurses := true, apart := false }
def FnExactComponentsSaid : Prop := fnExactComponentsRow.holds Tryz.pinned (OpenSpec.ofChange fnExactComponentsSpec)

/-- ITS FALSE NEIGHBOUR: 'it returns false'. Refute it at one input. -/
def fnExactComponentsWrong : ChangeSpec := { name := "fnExactComponents", fn := fun _ => fun
  | [d] => { results := [.lit (.bool false)], args := [d] }
  | _ => none }
def FnExactComponentsWrongFalsely : Prop := fnExactComponentsRow.holds Tryz.pinned (OpenSpec.ofChange fnExactComponentsWrong)

/-- 'laws.FnExactReachBy': WHATEVER THE INPUT: true; the input reads as it did. -/
def fnExactReachBySpec : ChangeSpec := { name := "fnExactReachBy", fn := fun _ => fun
  | [d] => { results := [.lit (.bool true)], args := [d] }
  | _ => none }
def fnExactReachByRow : OpenClaim := { program := "ytplibobhcjgcmaagreat", sum := "63883c8150b9726ebda87f64dd55cf646d11f2b597fde0d0c6d8a2b76355ace2", func := "loop.example/wholecheck/laws.FnExactReachBy", spec := "fnExactReachBy", inPlace := ["slices.overlaps[[]int]"], unfollowed := true, recurses := true, apart := false }
def FnExactReachBySaid : Prop := fnExactReachByRow.holds Tryz.pinned (OpenSpec.ofChange fnExactReachBySpec)

/-- ITS FALSE NEIGHBOUR: 'it returns false'. Refute it at one input. -/
def fnExactReachByWrong : ChangeSpec := { name := "fnExactReachBy", fn := fun _ => fun
  | [d] => { results := [.lit (.bool false)], args := [d] }
  | _ => none }
def FnExactReachByWrongFalsely : Prop := fnExactReachByRow.holds Tryz.pinned (OpenSpec.ofChange fnExactReachByWrong)

/-- 'laws.FnExactWayTo': WHATEVER THE INPUT: true; the input reads as it did. -/
def fnExactWayToSpec : ChangeSpec := { name := "fnExactWayTo", fn := fun _ => fun
  | [d1, d2] => { results := [.lit (.bool true)], args := [d1, d2] }
  | _ => none }
def fnExactWayToRow : OpenClaim := { program := "ytplibobhcjgcmaagreat", sum := "63883c8150b9726ebda87f64dd55cf646d11f2b597fde0d0c6d8a2b76355ace2", func := "loop.example/wholecheck/laws.FnExactWayTo", spec := "fnExactWayTo", inPlace := ["slices.overlaps[[]int]"], unfollowed := true, recurses := true, apart := false }
def FnExactWayToSaid : Prop := fnExactWayToRow.holds Tryz.pinned (OpenSpec.ofChange fnExactWayToSpec)

/-- ITS FALSE NEIGHBOUR: 'it returns false'. Refute it at one input. -/
def fnExactWayToWrong : ChangeSpec := { name := "fnExactWayTo", fn := fun _ => fun
  | [d1, d2] => { results := [.lit (.bool false)], args := [d1, d2] }
  | _ => none }
def FnExactWayToWrongFalsely : Prop := fnExactWayToRow.holds Tryz.pinned (OpenSpec.ofChange fnExactWayToWrong)

/-- 'laws.FnExactGraphOf': WHATEVER THE INPUT: true; the input reads as it did. -/
def fnExactGraphOfSpec : ChangeSpec := { name := "fnExactGraphOf", fn := fun _ => fun
  | [d1, d2] => { results := [.lit (.bool true)], args := [d1, d2] }
  | _ => none }
def fnExactGraphOfRow : OpenClaim := { program := "ytplibobhcjgcmaagreat", sum := "63883c8150b9726ebda87f64dd55cf646d11f2b597fde0d0c6d8a2b76355ace2", func := "loop.example/wholecheck/laws.FnExactGraphOf", spec := "fnExactGraphOf", inPlace := ["slices.overlaps[[]int]"], unfollowed := true, recurses := true, apart := false }
def FnExactGraphOfSaid : Prop := fnExactGraphOfRow.holds Tryz.pinned (OpenSpec.ofChange fnExactGraphOfSpec)

/-- ITS FALSE NEIGHBOUR: 'it returns false'. Refute it at one input. -/
def fnExactGraphOfWrong : ChangeSpec := { name := "fnExactGraphOf", fn := fun _ => fun
  | [d1, d2] => { results := [.lit (.bool false)], args := [d1, d2] }
  | _ => none }
def FnExactGraphOfWrongFalsely : Prop := fnExactGraphOfRow.holds Tryz.pinned (OpenSpec.ofChange fnExactGraphOfWrong)

/-- 'laws.FnExactProductFirst': WHATEVER THE INPUT: true; the input reads as it did. -/
def fnExactProductFirstSpec : ChangeSpec := { name := "fnExactProductFirst", fn := fun _ => fun
  | [d1, d2, d3] => { results := [.lit (.bool true)], args := [d1, d2, d3] }
  | _ => none }
def fnExactProductFirstRow : OpenClaim := { program := "ytplibobhcjgcmaagreat", sum := "63883c8150b9726ebda87f64dd55cf646d11f2b597fde0d0c6d8a2b76355ace2", func := "loop.example/wholecheck/laws.FnExactProductFirst", spec := "fnExactProductFirst", inPlace := ["slices.overlaps[[]int]"], unfollowed := true, recurses := true, apart := false }
def FnExactProductFirstSaid : Prop := fnExactProductFirstRow.holds Tryz.pinned (OpenSpec.ofChange fnExactProductFirstSpec)

/-- ITS FALSE NEIGHBOUR: 'it returns false'. Refute it at one input. -/
def fnExactProductFirstWrong : ChangeSpec := { name := "fnExactProductFirst", fn := fun _ => fun
  | [d1, d2, d3] => { results := [.lit (.bool false)], args := [d1, d2, d3] }
  | _ => none }
def FnExactProductFirstWrongFalsely : Prop := fnExactProductFirstRow.holds Tryz.pinned (OpenSpec.ofChange fnExactProductFirstWrong)

/-- 'laws.FnExactCanReach': WHATEVER THE INPUT: true; the input reads as it did. -/
def fnExactCanReachSpec : ChangeSpec := { name := "fnExactCanReach", fn := fun _ => fun
  | [d1, d2] => { results := [.lit (.bool true)], args := [d1, d2] }
  | _ => none }
def fnExactCanReachRow : OpenClaim := { program := "ytplibobhcjgcmaagreat", sum := "63883c8150b9726ebda87f64dd55cf646d11f2b597fde0d0c6d8a2b76355ace2", func := "loop.example/wholecheck/laws.FnExactCanReach", spec := "fnExactCanReach", inPlace := ["slices.overlaps[[]int]"], unfollowed := true, recurses := true, apart := false }
def FnExactCanReachSaid : Prop := fnExactCanReachRow.holds Tryz.pinned (OpenSpec.ofChange fnExactCanReachSpec)

/-- ITS FALSE NEIGHBOUR: 'it returns false'. Refute it at one input. -/
def fnExactCanReachWrong : ChangeSpec := { name := "fnExactCanReach", fn := fun _ => fun
  | [d1, d2] => { results := [.lit (.bool false)], args := [d1, d2] }
  | _ => none }
def FnExactCanReachWrongFalsely : Prop := fnExactCanReachRow.holds Tryz.pinned (OpenSpec.ofChange fnExactCanReachWrong)

/- THE SECOND FORM. 'bulk': how many values and letters a reading holds, each counted each time it is reached (what is shared counts as often as it is met; a slice's spare places count too). A statement '..UptoSaid' is the law's where the arguments, and the package variables that the reading takes, are together of bulk at most 1048576: NARROWER than '..Said'. Prove '..Said' where nothing that the law and all that it calls make is longer than what came in: it says more and counts as full. Else prove '..UptoSaid'. A law counts once. -/
mutual
def uptoBulk {H : Type} : DataW H → Nat
  | .lit (.string bytes) => bytes.length + 1
  | .lit _ => 1
  | .nil => 1
  | .ptr d => uptoBulk d + 1
  | .slice elems spare => uptoBulkAll elems + uptoBulkAll spare + 1
  | .agg parts => uptoBulkAll parts + 1
  | .iface _ d => uptoBulk d + 1
  | .map entries => uptoBulkEntries entries + 1
  | .held _ => 1
def uptoBulkAll {H : Type} : List (DataW H) → Nat
  | [] => 0
  | d :: r => uptoBulk d + uptoBulkAll r
def uptoBulkEntries {H : Type} : List (Lit × DataW H) → Nat
  | [] => 0
  | x :: r => uptoBulkEntry x + uptoBulkEntries r
def uptoBulkEntry {H : Type} : Lit × DataW H → Nat
  | (.string bytes, d) => bytes.length + uptoBulk d + 1
  | (_, d) => uptoBulk d + 1
 end
def uptoSmall : (H : Type) → List (DataW H) → Bool := fun _ ds => decide (uptoBulkAll ds ≤ 1048576)
def OpenSpec.upto (s : _root_.Go.ChangeSpec) : _root_.Go.OpenSpec := { _root_.Go.OpenSpec.ofChange s with cond := some uptoSmall }

/-- 'laws.FnExactComponents', WHERE WHAT IT READS IS OF BULK AT MOST 1048576: true; the input reads as it did. -/
def fnExactComponentsUptoRow : OpenClaim := { program := "ytplibobhcjgcmaagreat", sum := "63883c8150b9726ebda87f64dd55cf646d11f2b597fde0d0c6d8a2b76355ace2", func := "loop.example/wholecheck/laws.FnExactComponents", spec := "fnExactComponents", inPlace := ["slices.overlaps[[]int]"], unfollowed := true, recurses := true, apart := false, narrowed := true }
def FnExactComponentsUptoSaid : Prop := fnExactComponentsUptoRow.holds Tryz.pinned (OpenSpec.upto fnExactComponentsSpec)

/-- 'laws.FnExactReachBy', WHERE WHAT IT READS IS OF BULK AT MOST 1048576: true; the input reads as it did. -/
def fnExactReachByUptoRow : OpenClaim := { program := "ytplibobhcjgcmaagreat", sum := "63883c8150b9726ebda87f64dd55cf646d11f2b597fde0d0c6d8a2b76355ace2", func := "loop.example/wholecheck/laws.FnExactReachBy", spec := "fnExactReachBy", inPlace := ["slices.overlaps[[]int]"], unfollowed := true, recurses := true, apart := false, narrowed := true }
def FnExactReachByUptoSaid : Prop := fnExactReachByUptoRow.holds Tryz.pinned (OpenSpec.upto fnExactReachBySpec)

/-- 'laws.FnExactWayTo', WHERE WHAT IT READS IS OF BULK AT MOST 1048576: true; the input reads as it did. -/
def fnExactWayToUptoRow : OpenClaim := { program := "ytplibobhcjgcmaagreat", sum := "63883c8150b9726ebda87f64dd55cf646d11f2b597fde0d0c6d8a2b76355ace2", func := "loop.example/wholecheck/laws.FnExactWayTo", spec := "fnExactWayTo", inPlace := ["slices.overlaps[[]int]"], unfollowed := true, recurses := true, apart := false, narrowed := true }
def FnExactWayToUptoSaid : Prop := fnExactWayToUptoRow.holds Tryz.pinned (OpenSpec.upto fnExactWayToSpec)

/-- 'laws.FnExactGraphOf', WHERE WHAT IT READS IS OF BULK AT MOST 1048576: true; the input reads as it did. -/
def fnExactGraphOfUptoRow : OpenClaim := { program := "ytplibobhcjgcmaagreat", sum := "63883c8150b9726ebda87f64dd55cf646d11f2b597fde0d0c6d8a2b76355ace2", func := "loop.example/wholecheck/laws.FnExactGraphOf", spec := "fnExactGraphOf", inPlace := ["slices.overlaps[[]int]"], unfollowed := true, recurses := true, apart := false, narrowed := true }
def FnExactGraphOfUptoSaid : Prop := fnExactGraphOfUptoRow.holds Tryz.pinned (OpenSpec.upto fnExactGraphOfSpec)

/-- 'laws.FnExactProductFirst', WHERE WHAT IT READS IS OF BULK AT MOST 1048576: true; the input reads as it did. -/
def fnExactProductFirstUptoRow : OpenClaim := { program := "ytplibobhcjgcmaagreat", sum := "63883c8150b9726ebda87f64dd55cf646d11f2b597fde0d0c6d8a2b76355ace2", func := "loop.example/wholecheck/laws.FnExactProductFirst", spec := "fnExactProductFirst", inPlace := ["slices.overlaps[[]int]"], unfollowed := true, recurses := true, apart := false, narrowed := true }
def FnExactProductFirstUptoSaid : Prop := fnExactProductFirstUptoRow.holds Tryz.pinned (OpenSpec.upto fnExactProductFirstSpec)

/-- 'laws.FnExactCanReach', WHERE WHAT IT READS IS OF BULK AT MOST 1048576: true; the input reads as it did. -/
def fnExactCanReachUptoRow : OpenClaim := { program := "ytplibobhcjgcmaagreat", sum := "63883c8150b9726ebda87f64dd55cf646d11f2b597fde0d0c6d8a2b76355ace2", func := "loop.example/wholecheck/laws.FnExactCanReach", spec := "fnExactCanReach", inPlace := ["slices.overlaps[[]int]"], unfollowed := true, recurses := true, apart := false, narrowed := true }
def FnExactCanReachUptoSaid : Prop := fnExactCanReachUptoRow.holds Tryz.pinned (OpenSpec.upto fnExactCanReachSpec)

end Rows
end Go.Proofs.YtplibobhcjgcmaaGreat
