/-
  No cell of these rows narrows 'for every input' (looked for: loops, veiled, ifaces, maps, wideKeys, modest, calm, conditions, laid).
  DERIVED. THE GIVEN ROWS OF THIS SEAT. 3 by the template 'for every input the law returns true; each argument reads behind the call as it read before'; 0 by the template 'total and deterministic' (their statements: YtlfinllnfggiiaaGreatTotals.lean).
  GIVEN WITH THE SEED: the statements are not yours to turn. If you find one false, say at which input.
  Laid BY PROGRAM, IN A SANDBOX (cutbox-rows.mjs): the forced cells as the released guide's own fill.sh prints them over the translation 08b52fc2be195be4… (all of the seat's roots in one cut). By AI agents, Wed Nov 11 2026. No macro, syntax, notation, axiom, sorry.
-/
import Derived.Test.YtlfinllnfggiiaaGreatChecked
import GoSem.Claim
import GoSem.ClaimJoined
import GoSem.ClaimMapViews
import Derived.JoinedTies
import Derived.KernelRfl
namespace Go.Proofs.YtlfinllnfggiiaaGreat
/- THE CELL 'sum', in the pinned program and in every row, IS THE sha256 OF THE DUMP (.gsa) THAT YtlfinllnfggiiaaGreatProg.lean LOADS. Nothing in Lean hashes anything: it is a label: what it is worth is what the hold of that sum in a sandbox is worth. -/
noncomputable def Tryz.pinned : Pinned := { name := "ytlfinllnfggiiaagreat", sum := "08b52fc2be195be49d7224f5047f3f3f0a7ae6e75305a16df7e116d126beb776", checked := Tryz.checked }
namespace Rows
def none {H : Type} : Left H := { results := [], args := [] }

/-- 'laws.FnRulesApart': WHATEVER THE INPUT: true; the input reads as it did. -/
def fnRulesApartSpec : ChangeSpec := { name := "fnRulesApart", fn := fun _ => fun
  | [d] => { results := [.lit (.bool true)], args := [d] }
  | _ => none }
def fnRulesApartRow : OpenClaim := { program := "ytlfinllnfggiiaagreat", sum := "08b52fc2be195be49d7224f5047f3f3f0a7ae6e75305a16df7e116d126beb776", func := "loop.example/wholecheck/laws.FnRulesApart", spec := "fnRulesApart", unfollowed := true, recurses := true, apart := false }
def FnRulesApartSaid : Prop := fnRulesApartRow.holds Tryz.pinned (OpenSpec.ofChange fnRulesApartSpec)

/-- ITS FALSE NEIGHBOUR: 'it returns false'. Refute it at one input. -/
def fnRulesApartWrong : ChangeSpec := { name := "fnRulesApart", fn := fun _ => fun
  | [d] => { results := [.lit (.bool false)], args := [d] }
  | _ => none }
def FnRulesApartWrongFalsely : Prop := fnRulesApartRow.holds Tryz.pinned (OpenSpec.ofChange fnRulesApartWrong)

/-- 'laws.FnHoldsOnRun': WHATEVER THE INPUT: true; the input reads as it did. -/
def fnHoldsOnRunSpec : ChangeSpec := { name := "fnHoldsOnRun", fn := fun _ => fun
  | [d] => { results := [.lit (.bool true)], args := [d] }
  | _ => none }
def fnHoldsOnRunRow : OpenClaim := { program := "ytlfinllnfggiiaagreat", sum := "08b52fc2be195be49d7224f5047f3f3f0a7ae6e75305a16df7e116d126beb776", func := "loop.example/wholecheck/laws.FnHoldsOnRun", spec := "fnHoldsOnRun", unfollowed := true, recurses := true, apart := false }
def FnHoldsOnRunSaid : Prop := fnHoldsOnRunRow.holds Tryz.pinned (OpenSpec.ofChange fnHoldsOnRunSpec)

/-- ITS FALSE NEIGHBOUR: 'it returns false'. Refute it at one input. -/
def fnHoldsOnRunWrong : ChangeSpec := { name := "fnHoldsOnRun", fn := fun _ => fun
  | [d] => { results := [.lit (.bool false)], args := [d] }
  | _ => none }
def FnHoldsOnRunWrongFalsely : Prop := fnHoldsOnRunRow.holds Tryz.pinned (OpenSpec.ofChange fnHoldsOnRunWrong)

/-- 'laws.FnFrames': WHATEVER THE INPUT: true; the input reads as it did. -/
def fnFramesSpec : ChangeSpec := { name := "fnFrames", fn := fun _ => fun
  | [d] => { results := [.lit (.bool true)], args := [d] }
  | _ => none }
def fnFramesRow : OpenClaim := { program := "ytlfinllnfggiiaagreat", sum := "08b52fc2be195be49d7224f5047f3f3f0a7ae6e75305a16df7e116d126beb776", func := "loop.example/wholecheck/laws.FnFrames", spec := "fnFrames", inPlace := ["slices.overlaps[[]int]"], unfollowed := true, recurses := true, apart := false }
def FnFramesSaid : Prop := fnFramesRow.holds Tryz.pinned (OpenSpec.ofChange fnFramesSpec)

/-- ITS FALSE NEIGHBOUR: 'it returns false'. Refute it at one input. -/
def fnFramesWrong : ChangeSpec := { name := "fnFrames", fn := fun _ => fun
  | [d] => { results := [.lit (.bool false)], args := [d] }
  | _ => none }
def FnFramesWrongFalsely : Prop := fnFramesRow.holds Tryz.pinned (OpenSpec.ofChange fnFramesWrong)

/- THE SECOND FORM. 'bulk': how many values and letters a reading holds, each counted each time it is reached (what is shared counts as often as it is met; a slice's spare places count too). A statement '..UptoSaid' is the law's where the arguments, and the package variables that the reading takes, are together of bulk at most 1048576: NARROWER than '..Said'. Prove '..Said' where nothing that the law and all that it calls make is longer than what came in: it says more and counts as full. Else prove '..UptoSaid'. A law counts once. -/
mutual
def uptoBulk {H : Type} : DataW H → Nat
  | .lit (.string bytes) => bytes.length + 1
  | .lit _ => 1
  | .nil => 1
  | .ptr d => uptoBulk d + 1
  | .slice elems spare => uptoBulkAll elems + uptoBulkAll spare + 1
  | .agg parts => uptoBulkAll parts + 1
  | .iface _ d => uptoBulk d + 1
  | .map entries => uptoBulkEntries entries + 1
  | .held _ => 1
def uptoBulkAll {H : Type} : List (DataW H) → Nat
  | [] => 0
  | d :: r => uptoBulk d + uptoBulkAll r
def uptoBulkEntries {H : Type} : List (Lit × DataW H) → Nat
  | [] => 0
  | x :: r => uptoBulkEntry x + uptoBulkEntries r
def uptoBulkEntry {H : Type} : Lit × DataW H → Nat
  | (.string bytes, d) => bytes.length + uptoBulk d + 1
  | (_, d) => uptoBulk d + 1
 end
def uptoSmall : (H : Type) → List (DataW H) → Bool := fun _ ds => decide (uptoBulkAll ds ≤ 1048576)
def OpenSpec.upto (s : _root_.Go.ChangeSpec) : _root_.Go.OpenSpec := { _root_.Go.OpenSpec.ofChange s with cond := some uptoSmall }

/-- 'laws.FnRulesApart', WHERE WHAT IT READS IS OF BULK AT MOST 1048576: true; the input reads as it did. -/
def fnRulesApartUptoRow : OpenClaim := { program := "ytlfinllnfggiiaagreat", sum := "08b52fc2be195be49d7224f5047f3f3f0a7ae6e75305a16df7e116d126beb776", func := "loop.example/wholecheck/laws.FnRulesApart", spec := "fnRulesApart", unfollowed := true, recurses := true, apart := false, narrowed := true }
def FnRulesApartUptoSaid : Prop := fnRulesApartUptoRow.holds Tryz.pinned (OpenSpec.upto fnRulesApartSpec)

/-- 'laws.FnHoldsOnRun', WHERE WHAT IT READS IS OF BULK AT MOST 1048576: true; the input reads as it did. -/
def fnHoldsOnRunUptoRow : OpenClaim := { program := "ytlfinllnfggiiaagreat", sum := "08b52fc2be195be49d7224f5047f3f3f0a7ae6e75305a16df7e116d126beb776", func := "loop.example/wholecheck/laws.FnHoldsOnRun", spec := "fnHoldsOnRun", unfollowed := true, recurses := true, apart := false, narrowed := true }
def FnHoldsOnRunUptoSaid : Prop := fnHoldsOnRunUptoRow.holds Tryz.pinned (OpenSpec.upto fnHoldsOnRunSpec)

/-- 'laws.FnFrames', WHERE WHAT IT READS IS OF BULK AT MOST 1048576: true; the input reads as it did. -/
def fnFramesUptoRow : OpenClaim := { program := "ytlfinllnfggiiaagreat", sum := "08b52fc2be195be49d7224f5047f3f3f0a7ae6e75305a16df7e116d126beb776", func := "loop.example/wholecheck/laws.FnFrames", spec := "fnFrames", inPlace := ["slices.overlaps[[]int]"], unfollowed := true, recurses := true, apart := false, narrowed := true }
def FnFramesUptoSaid : Prop := fnFramesUptoRow.holds Tryz.pinned (OpenSpec.upto fnFramesSpec)

end Rows
end Go.Proofs.YtlfinllnfggiiaaGreat
