/-
  No cell of these rows narrows 'for every input' (looked for: loops, veiled, ifaces, maps, wideKeys, modest, calm, conditions, laid).
  DERIVED. THE GIVEN ROWS OF THIS SEAT. 6 by the template 'for every input the law returns true; each argument reads behind the call as it read before'; 0 by the template 'total and deterministic' (their statements: YtilmaoicaejbdaaGreatTotals.lean).
  GIVEN WITH THE SEED: the statements are not yours to turn. If you find one false, say at which input.
  Laid BY PROGRAM, IN A SANDBOX (cutbox-rows.mjs): the forced cells as the released guide's own fill.sh prints them over the translation ac2821a0524d9090… (all of the seat's roots in one cut). By AI agents, Wed Nov 11 2026. No macro, syntax, notation, axiom, sorry.
-/
import Derived.Test.YtilmaoicaejbdaaGreatChecked
import GoSem.Claim
import GoSem.ClaimJoined
import GoSem.ClaimMapViews
import Derived.JoinedTies
import Derived.KernelRfl
namespace Go.Proofs.YtilmaoicaejbdaaGreat
/- THE CELL 'sum', in the pinned program and in every row, IS THE sha256 OF THE DUMP (.gsa) THAT YtilmaoicaejbdaaGreatProg.lean LOADS. Nothing in Lean hashes anything: it is a label: what it is worth is what the hold of that sum in a sandbox is worth. -/
noncomputable def Tryz.pinned : Pinned := { name := "ytilmaoicaejbdaagreat", sum := "ac2821a0524d909041e737d1054e36f5b9e05749cc8ffc148621fb3c7a866fa1", checked := Tryz.checked }
namespace Rows
def none {H : Type} : Left H := { results := [], args := [] }

/-- 'laws.FnExactLooplessTo': WHATEVER THE INPUT: true; the input reads as it did. -/
def fnExactLooplessToSpec : ChangeSpec := { name := "fnExactLooplessTo", fn := fun _ => fun
  | [d1, d2, d3] => { results := [.lit (.bool true)], args := [d1, d2, d3] }
  | _ => none }
def fnExactLooplessToRow : OpenClaim := { program := "ytilmaoicaejbdaagreat", sum := "ac2821a0524d909041e737d1054e36f5b9e05749cc8ffc148621fb3c7a866fa1", func := "loop.example/wholecheck/laws.FnExactLooplessTo", spec := "fnExactLooplessTo", inPlace := ["slices.overlaps[[]int]"], unfollowed := true, recurses := true, apart := false }
def FnExactLooplessToSaid : Prop := fnExactLooplessToRow.holds Tryz.pinned (OpenSpec.ofChange fnExactLooplessToSpec)

/-- ITS FALSE NEIGHBOUR: 'it returns false'. Refute it at one input. -/
def fnExactLooplessToWrong : ChangeSpec := { name := "fnExactLooplessTo", fn := fun _ => fun
  | [d1, d2, d3] => { results := [.lit (.bool false)], args := [d1, d2, d3] }
  | _ => none }
def FnExactLooplessToWrongFalsely : Prop := fnExactLooplessToRow.holds Tryz.pinned (OpenSpec.ofChange fnExactLooplessToWrong)

/-- 'laws.FnLeastInduction': WHATEVER THE INPUT: true; the input reads as it did. -/
def fnLeastInductionSpec : ChangeSpec := { name := "fnLeastInduction", fn := fun _ => fun
  | [d] => { results := [.lit (.bool true)], args := [d] }
  | _ => none }
def fnLeastInductionRow : OpenClaim := { program := "ytilmaoicaejbdaagreat", sum := "ac2821a0524d909041e737d1054e36f5b9e05749cc8ffc148621fb3c7a866fa1", func := "loop.example/wholecheck/laws.FnLeastInduction", spec := "fnLeastInduction", inPlace := ["slices.overlaps[[]int]"], unfollowed := true, recurses := true, apart := false }
def FnLeastInductionSaid : Prop := fnLeastInductionRow.holds Tryz.pinned (OpenSpec.ofChange fnLeastInductionSpec)

/-- ITS FALSE NEIGHBOUR: 'it returns false'. Refute it at one input. -/
def fnLeastInductionWrong : ChangeSpec := { name := "fnLeastInduction", fn := fun _ => fun
  | [d] => { results := [.lit (.bool false)], args := [d] }
  | _ => none }
def FnLeastInductionWrongFalsely : Prop := fnLeastInductionRow.holds Tryz.pinned (OpenSpec.ofChange fnLeastInductionWrong)

/-- 'laws.FnExactKInductive': WHATEVER THE INPUT: true; the input reads as it did. -/
def fnExactKInductiveSpec : ChangeSpec := { name := "fnExactKInductive", fn := fun _ => fun
  | [d1, d2, d3] => { results := [.lit (.bool true)], args := [d1, d2, d3] }
  | _ => none }
def fnExactKInductiveRow : OpenClaim := { program := "ytilmaoicaejbdaagreat", sum := "ac2821a0524d909041e737d1054e36f5b9e05749cc8ffc148621fb3c7a866fa1", func := "loop.example/wholecheck/laws.FnExactKInductive", spec := "fnExactKInductive", inPlace := ["slices.overlaps[[]int]"], unfollowed := true, recurses := true, apart := false }
def FnExactKInductiveSaid : Prop := fnExactKInductiveRow.holds Tryz.pinned (OpenSpec.ofChange fnExactKInductiveSpec)

/-- ITS FALSE NEIGHBOUR: 'it returns false'. Refute it at one input. -/
def fnExactKInductiveWrong : ChangeSpec := { name := "fnExactKInductive", fn := fun _ => fun
  | [d1, d2, d3] => { results := [.lit (.bool false)], args := [d1, d2, d3] }
  | _ => none }
def FnExactKInductiveWrongFalsely : Prop := fnExactKInductiveRow.holds Tryz.pinned (OpenSpec.ofChange fnExactKInductiveWrong)

/-- 'laws.FnKInductive': WHATEVER THE INPUT: true; the input reads as it did. -/
def fnKInductiveSpec : ChangeSpec := { name := "fnKInductive", fn := fun _ => fun
  | [d] => { results := [.lit (.bool true)], args := [d] }
  | _ => none }
def fnKInductiveRow : OpenClaim := { program := "ytilmaoicaejbdaagreat", sum := "ac2821a0524d909041e737d1054e36f5b9e05749cc8ffc148621fb3c7a866fa1", func := "loop.example/wholecheck/laws.FnKInductive", spec := "fnKInductive", inPlace := ["slices.overlaps[[]int]"], unfollowed := true, recurses := true, apart := false }
def FnKInductiveSaid : Prop := fnKInductiveRow.holds Tryz.pinned (OpenSpec.ofChange fnKInductiveSpec)

/-- ITS FALSE NEIGHBOUR: 'it returns false'. Refute it at one input. -/
def fnKInductiveWrong : ChangeSpec := { name := "fnKInductive", fn := fun _ => fun
  | [d] => { results := [.lit (.bool false)], args := [d] }
  | _ => none }
def FnKInductiveWrongFalsely : Prop := fnKInductiveRow.holds Tryz.pinned (OpenSpec.ofChange fnKInductiveWrong)

/-- 'laws.FnExactLeastInduction': WHATEVER THE INPUT: true; the input reads as it did. -/
def fnExactLeastInductionSpec : ChangeSpec := { name := "fnExactLeastInduction", fn := fun _ => fun
  | [d1, d2] => { results := [.lit (.bool true)], args := [d1, d2] }
  | _ => none }
def fnExactLeastInductionRow : OpenClaim := { program := "ytilmaoicaejbdaagreat", sum := "ac2821a0524d909041e737d1054e36f5b9e05749cc8ffc148621fb3c7a866fa1", func := "loop.example/wholecheck/laws.FnExactLeastInduction", spec := "fnExactLeastInduction", inPlace := ["slices.overlaps[[]int]"], unfollowed := true, recurses := true, apart := false }
def FnExactLeastInductionSaid : Prop := fnExactLeastInductionRow.holds Tryz.pinned (OpenSpec.ofChange fnExactLeastInductionSpec)

/-- ITS FALSE NEIGHBOUR: 'it returns false'. Refute it at one input. -/
def fnExactLeastInductionWrong : ChangeSpec := { name := "fnExactLeastInduction", fn := fun _ => fun
  | [d1, d2] => { results := [.lit (.bool false)], args := [d1, d2] }
  | _ => none }
def FnExactLeastInductionWrongFalsely : Prop := fnExactLeastInductionRow.holds Tryz.pinned (OpenSpec.ofChange fnExactLeastInductionWrong)

/-- 'laws.FnExactStubbornFrom': WHATEVER THE INPUT: true; the input reads as it did. -/
def fnExactStubbornFromSpec : ChangeSpec := { name := "fnExactStubbornFrom", fn := fun _ => fun
  | [d1, d2, d3] => { results := [.lit (.bool true)], args := [d1, d2, d3] }
  | _ => none }
def fnExactStubbornFromRow : OpenClaim := { program := "ytilmaoicaejbdaagreat", sum := "ac2821a0524d909041e737d1054e36f5b9e05749cc8ffc148621fb3c7a866fa1", func := "loop.example/wholecheck/laws.FnExactStubbornFrom", spec := "fnExactStubbornFrom", unfollowed := true, recurses := true, apart := false }
def FnExactStubbornFromSaid : Prop := fnExactStubbornFromRow.holds Tryz.pinned (OpenSpec.ofChange fnExactStubbornFromSpec)

/-- ITS FALSE NEIGHBOUR: 'it returns false'. Refute it at one input. -/
def fnExactStubbornFromWrong : ChangeSpec := { name := "fnExactStubbornFrom", fn := fun _ => fun
  | [d1, d2, d3] => { results := [.lit (.bool false)], args := [d1, d2, d3] }
  | _ => none }
def FnExactStubbornFromWrongFalsely : Prop := fnExactStubbornFromRow.holds Tryz.pinned (OpenSpec.ofChange fnExactStubbornFromWrong)

/- THE SECOND FORM. 'bulk': how many values and letters a reading holds, each counted each time it is reached (what is shared counts as often as it is met; a slice's spare places count too). A statement '..UptoSaid' is the law's where the arguments, and the package variables that the reading takes, are together of bulk at most 1048576: NARROWER than '..Said'. Prove '..Said' where nothing that the law and all that it calls make is longer than what came in: it says more and counts as full. Else prove '..UptoSaid'. A law counts once. -/
mutual
def uptoBulk {H : Type} : DataW H → Nat
  | .lit (.string bytes) => bytes.length + 1
  | .lit _ => 1
  | .nil => 1
  | .ptr d => uptoBulk d + 1
  | .slice elems spare => uptoBulkAll elems + uptoBulkAll spare + 1
  | .agg parts => uptoBulkAll parts + 1
  | .iface _ d => uptoBulk d + 1
  | .map entries => uptoBulkEntries entries + 1
  | .held _ => 1
def uptoBulkAll {H : Type} : List (DataW H) → Nat
  | [] => 0
  | d :: r => uptoBulk d + uptoBulkAll r
def uptoBulkEntries {H : Type} : List (Lit × DataW H) → Nat
  | [] => 0
  | x :: r => uptoBulkEntry x + uptoBulkEntries r
def uptoBulkEntry {H : Type} : Lit × DataW H → Nat
  | (.string bytes, d) => bytes.length + uptoBulk d + 1
  | (_, d) => uptoBulk d + 1
 end
def uptoSmall : (H : Type) → List (DataW H) → Bool := fun _ ds => decide (uptoBulkAll ds ≤ 1048576)
def OpenSpec.upto (s : _root_.Go.ChangeSpec) : _root_.Go.OpenSpec := { _root_.Go.OpenSpec.ofChange s with cond := some uptoSmall }

/-- 'laws.FnExactLooplessTo', WHERE WHAT IT READS IS OF BULK AT MOST 1048576: true; the input reads as it did. -/
def fnExactLooplessToUptoRow : OpenClaim := { program := "ytilmaoicaejbdaagreat", sum := "ac2821a0524d909041e737d1054e36f5b9e05749cc8ffc148621fb3c7a866fa1", func := "loop.example/wholecheck/laws.FnExactLooplessTo", spec := "fnExactLooplessTo", inPlace := ["slices.overlaps[[]int]"], unfollowed := true, recurses := true, apart := false, narrowed := true }
def FnExactLooplessToUptoSaid : Prop := fnExactLooplessToUptoRow.holds Tryz.pinned (OpenSpec.upto fnExactLooplessToSpec)

/-- 'laws.FnLeastInduction', WHERE WHAT IT READS IS OF BULK AT MOST 1048576: true; the input reads as it did. -/
def fnLeastInductionUptoRow : OpenClaim := { program := "ytilmaoicaejbdaagreat", sum := "ac2821a0524d909041e737d1054e36f5b9e05749cc8ffc148621fb3c7a866fa1", func := "loop.example/wholecheck/laws.FnLeastInduction", spec := "fnLeastInduction", inPlace := ["slices.overlaps[[]int]"], unfollowed := true, recurses := true, apart := false, narrowed := true }
def FnLeastInductionUptoSaid : Prop := fnLeastInductionUptoRow.holds Tryz.pinned (OpenSpec.upto fnLeastInductionSpec)

/-- 'laws.FnExactKInductive', WHERE WHAT IT READS IS OF BULK AT MOST 1048576: true; the input reads as it did. -/
def fnExactKInductiveUptoRow : OpenClaim := { program := "ytilmaoicaejbdaagreat", sum := "ac2821a0524d909041e737d1054e36f5b9e05749cc8ffc148621fb3c7a866fa1", func := "loop.example/wholecheck/laws.FnExactKInductive", spec := "fnExactKInductive", inPlace := ["slices.overlaps[[]int]"], unfollowed := true, recurses := true, apart := false, narrowed := true }
def FnExactKInductiveUptoSaid : Prop := fnExactKInductiveUptoRow.holds Tryz.pinned (OpenSpec.upto fnExactKInductiveSpec)

/-- 'laws.FnKInductive', WHERE WHAT IT READS IS OF BULK AT MOST 1048576: true; the input reads as it did. -/
def fnKInductiveUptoRow : OpenClaim := { program := "ytilmaoicaejbdaagreat", sum := "ac2821a0524d909041e737d1054e36f5b9e05749cc8ffc148621fb3c7a866fa1", func := "loop.example/wholecheck/laws.FnKInductive", spec := "fnKInductive", inPlace := ["slices.overlaps[[]int]"], unfollowed := true, recurses := true, apart := false, narrowed := true }
def FnKInductiveUptoSaid : Prop := fnKInductiveUptoRow.holds Tryz.pinned (OpenSpec.upto fnKInductiveSpec)

/-- 'laws.FnExactLeastInduction', WHERE WHAT IT READS IS OF BULK AT MOST 1048576: true; the input reads as it did. -/
def fnExactLeastInductionUptoRow : OpenClaim := { program := "ytilmaoicaejbdaagreat", sum := "ac2821a0524d909041e737d1054e36f5b9e05749cc8ffc148621fb3c7a866fa1", func := "loop.example/wholecheck/laws.FnExactLeastInduction", spec := "fnExactLeastInduction", inPlace := ["slices.overlaps[[]int]"], unfollowed := true, recurses := true, apart := false, narrowed := true }
def FnExactLeastInductionUptoSaid : Prop := fnExactLeastInductionUptoRow.holds Tryz.pinned (OpenSpec.upto fnExactLeastInductionSpec)

/-- 'laws.FnExactStubbornFrom', WHERE WHAT IT READS IS OF BULK AT MOST 1048576: true; the input reads as it did. -/
def fnExactStubbornFromUptoRow : OpenClaim := { program := "ytilmaoicaejbdaagreat", sum := "ac2821a0524d909041e737d1054e36f5b9e05749cc8ffc148621fb3c7a866fa1", func := "loop.example/wholecheck/laws.FnExactStubbornFrom", spec := "fnExactStubbornFrom", unfollowed := true, recurses := true, apart := false, narrowed := true }
def FnExactStubbornFromUptoSaid : Prop := fnExactStubbornFromUptoRow.holds Tryz.pinned (OpenSpec.upto fnExactStubbornFromSpec)

end Rows
end Go.Proofs.YtilmaoicaejbdaaGreat
