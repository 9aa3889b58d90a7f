/-
  No cell of these rows narrows 'for every input' (looked for: loops, veiled, ifaces, maps, wideKeys, modest, calm, conditions, laid).
  DERIVED. THE GIVEN ROWS OF THIS SEAT. 6 by the template 'for every input the law returns true; each argument reads behind the call as it read before'; 0 by the template 'total and deterministic' (their statements: YthapopegchnhlaaGreatTotals.lean).
  GIVEN WITH THE SEED: the statements are not yours to turn. If you find one false, say at which input.
  Laid BY PROGRAM, IN A SANDBOX (cutbox-rows.mjs): the forced cells as the released guide's own fill.sh prints them over the translation fc8d2c49efc0e169… (all of the seat's roots in one cut). By AI agents, Wed Nov 11 2026. No macro, syntax, notation, axiom, sorry.
-/
import Derived.Test.YthapopegchnhlaaGreatChecked
import GoSem.Claim
import GoSem.ClaimJoined
import GoSem.ClaimMapViews
import Derived.JoinedTies
import Derived.KernelRfl
namespace Go.Proofs.YthapopegchnhlaaGreat
/- THE CELL 'sum', in the pinned program and in every row, IS THE sha256 OF THE DUMP (.gsa) THAT YthapopegchnhlaaGreatProg.lean LOADS. Nothing in Lean hashes anything: it is a label: what it is worth is what the hold of that sum in a sandbox is worth. -/
noncomputable def Tryz.pinned : Pinned := { name := "ythapopegchnhlaagreat", sum := "fc8d2c49efc0e1690af82d7dff14a25b1b12f6d2f681acf1479388f69a64921b", checked := Tryz.checked }
namespace Rows
def none {H : Type} : Left H := { results := [], args := [] }

/-- 'laws.FnExactHoldsOnRun': WHATEVER THE INPUT: true; the input reads as it did. -/
def fnExactHoldsOnRunSpec : ChangeSpec := { name := "fnExactHoldsOnRun", fn := fun _ => fun
  | [d1, d2, d3, d4, d5] => { results := [.lit (.bool true)], args := [d1, d2, d3, d4, d5] }
  | _ => none }
def fnExactHoldsOnRunRow : OpenClaim := { program := "ythapopegchnhlaagreat", sum := "fc8d2c49efc0e1690af82d7dff14a25b1b12f6d2f681acf1479388f69a64921b", func := "loop.example/wholecheck/laws.FnExactHoldsOnRun", spec := "fnExactHoldsOnRun", unfollowed := true, recurses := true, apart := false }
def FnExactHoldsOnRunSaid : Prop := fnExactHoldsOnRunRow.holds Tryz.pinned (OpenSpec.ofChange fnExactHoldsOnRunSpec)

/-- ITS FALSE NEIGHBOUR: 'it returns false'. Refute it at one input. -/
def fnExactHoldsOnRunWrong : ChangeSpec := { name := "fnExactHoldsOnRun", fn := fun _ => fun
  | [d1, d2, d3, d4, d5] => { results := [.lit (.bool false)], args := [d1, d2, d3, d4, d5] }
  | _ => none }
def FnExactHoldsOnRunWrongFalsely : Prop := fnExactHoldsOnRunRow.holds Tryz.pinned (OpenSpec.ofChange fnExactHoldsOnRunWrong)

/-- 'laws.FnRulesApart': WHATEVER THE INPUT: true; the input reads as it did. -/
def fnRulesApartSpec : ChangeSpec := { name := "fnRulesApart", fn := fun _ => fun
  | [d] => { results := [.lit (.bool true)], args := [d] }
  | _ => none }
def fnRulesApartRow : OpenClaim := { program := "ythapopegchnhlaagreat", sum := "fc8d2c49efc0e1690af82d7dff14a25b1b12f6d2f681acf1479388f69a64921b", func := "loop.example/wholecheck/laws.FnRulesApart", spec := "fnRulesApart", unfollowed := true, recurses := true, apart := false }
def FnRulesApartSaid : Prop := fnRulesApartRow.holds Tryz.pinned (OpenSpec.ofChange fnRulesApartSpec)

/-- ITS FALSE NEIGHBOUR: 'it returns false'. Refute it at one input. -/
def fnRulesApartWrong : ChangeSpec := { name := "fnRulesApart", fn := fun _ => fun
  | [d] => { results := [.lit (.bool false)], args := [d] }
  | _ => none }
def FnRulesApartWrongFalsely : Prop := fnRulesApartRow.holds Tryz.pinned (OpenSpec.ofChange fnRulesApartWrong)

/-- 'laws.FnExactCanReach': WHATEVER THE INPUT: true; the input reads as it did. -/
def fnExactCanReachSpec : ChangeSpec := { name := "fnExactCanReach", fn := fun _ => fun
  | [d1, d2] => { results := [.lit (.bool true)], args := [d1, d2] }
  | _ => none }
def fnExactCanReachRow : OpenClaim := { program := "ythapopegchnhlaagreat", sum := "fc8d2c49efc0e1690af82d7dff14a25b1b12f6d2f681acf1479388f69a64921b", func := "loop.example/wholecheck/laws.FnExactCanReach", spec := "fnExactCanReach", inPlace := ["slices.overlaps[[]int]"], unfollowed := true, recurses := true, apart := false }
def FnExactCanReachSaid : Prop := fnExactCanReachRow.holds Tryz.pinned (OpenSpec.ofChange fnExactCanReachSpec)

/-- ITS FALSE NEIGHBOUR: 'it returns false'. Refute it at one input. -/
def fnExactCanReachWrong : ChangeSpec := { name := "fnExactCanReach", fn := fun _ => fun
  | [d1, d2] => { results := [.lit (.bool false)], args := [d1, d2] }
  | _ => none }
def FnExactCanReachWrongFalsely : Prop := fnExactCanReachRow.holds Tryz.pinned (OpenSpec.ofChange fnExactCanReachWrong)

/-- 'laws.FnHoldsOnRun': WHATEVER THE INPUT: true; the input reads as it did. -/
def fnHoldsOnRunSpec : ChangeSpec := { name := "fnHoldsOnRun", fn := fun _ => fun
  | [d] => { results := [.lit (.bool true)], args := [d] }
  | _ => none }
def fnHoldsOnRunRow : OpenClaim := { program := "ythapopegchnhlaagreat", sum := "fc8d2c49efc0e1690af82d7dff14a25b1b12f6d2f681acf1479388f69a64921b", func := "loop.example/wholecheck/laws.FnHoldsOnRun", spec := "fnHoldsOnRun", unfollowed := true, recurses := true, apart := false }
def FnHoldsOnRunSaid : Prop := fnHoldsOnRunRow.holds Tryz.pinned (OpenSpec.ofChange fnHoldsOnRunSpec)

/-- ITS FALSE NEIGHBOUR: 'it returns false'. Refute it at one input. -/
def fnHoldsOnRunWrong : ChangeSpec := { name := "fnHoldsOnRun", fn := fun _ => fun
  | [d] => { results := [.lit (.bool false)], args := [d] }
  | _ => none }
def FnHoldsOnRunWrongFalsely : Prop := fnHoldsOnRunRow.holds Tryz.pinned (OpenSpec.ofChange fnHoldsOnRunWrong)

/-- 'laws.FnExactStubbornFrom': WHATEVER THE INPUT: true; the input reads as it did. -/
def fnExactStubbornFromSpec : ChangeSpec := { name := "fnExactStubbornFrom", fn := fun _ => fun
  | [d1, d2, d3] => { results := [.lit (.bool true)], args := [d1, d2, d3] }
  | _ => none }
def fnExactStubbornFromRow : OpenClaim := { program := "ythapopegchnhlaagreat", sum := "fc8d2c49efc0e1690af82d7dff14a25b1b12f6d2f681acf1479388f69a64921b", func := "loop.example/wholecheck/laws.FnExactStubbornFrom", spec := "fnExactStubbornFrom", unfollowed := true, recurses := true, apart := false }
def FnExactStubbornFromSaid : Prop := fnExactStubbornFromRow.holds Tryz.pinned (OpenSpec.ofChange fnExactStubbornFromSpec)

/-- ITS FALSE NEIGHBOUR: 'it returns false'. Refute it at one input. -/
def fnExactStubbornFromWrong : ChangeSpec := { name := "fnExactStubbornFrom", fn := fun _ => fun
  | [d1, d2, d3] => { results := [.lit (.bool false)], args := [d1, d2, d3] }
  | _ => none }
def FnExactStubbornFromWrongFalsely : Prop := fnExactStubbornFromRow.holds Tryz.pinned (OpenSpec.ofChange fnExactStubbornFromWrong)

/-- 'laws.FnExactStubbornIn': WHATEVER THE INPUT: true; the input reads as it did. -/
def fnExactStubbornInSpec : ChangeSpec := { name := "fnExactStubbornIn", fn := fun _ => fun
  | [d1, d2] => { results := [.lit (.bool true)], args := [d1, d2] }
  | _ => none }
def fnExactStubbornInRow : OpenClaim := { program := "ythapopegchnhlaagreat", sum := "fc8d2c49efc0e1690af82d7dff14a25b1b12f6d2f681acf1479388f69a64921b", func := "loop.example/wholecheck/laws.FnExactStubbornIn", spec := "fnExactStubbornIn", unfollowed := true, recurses := true, apart := false }
def FnExactStubbornInSaid : Prop := fnExactStubbornInRow.holds Tryz.pinned (OpenSpec.ofChange fnExactStubbornInSpec)

/-- ITS FALSE NEIGHBOUR: 'it returns false'. Refute it at one input. -/
def fnExactStubbornInWrong : ChangeSpec := { name := "fnExactStubbornIn", fn := fun _ => fun
  | [d1, d2] => { results := [.lit (.bool false)], args := [d1, d2] }
  | _ => none }
def FnExactStubbornInWrongFalsely : Prop := fnExactStubbornInRow.holds Tryz.pinned (OpenSpec.ofChange fnExactStubbornInWrong)

/- THE SECOND FORM. 'bulk': how many values and letters a reading holds, each counted each time it is reached (what is shared counts as often as it is met; a slice's spare places count too). A statement '..UptoSaid' is the law's where the arguments, and the package variables that the reading takes, are together of bulk at most 1048576: NARROWER than '..Said'. Prove '..Said' where nothing that the law and all that it calls make is longer than what came in: it says more and counts as full. Else prove '..UptoSaid'. A law counts once. -/
mutual
def uptoBulk {H : Type} : DataW H → Nat
  | .lit (.string bytes) => bytes.length + 1
  | .lit _ => 1
  | .nil => 1
  | .ptr d => uptoBulk d + 1
  | .slice elems spare => uptoBulkAll elems + uptoBulkAll spare + 1
  | .agg parts => uptoBulkAll parts + 1
  | .iface _ d => uptoBulk d + 1
  | .map entries => uptoBulkEntries entries + 1
  | .held _ => 1
def uptoBulkAll {H : Type} : List (DataW H) → Nat
  | [] => 0
  | d :: r => uptoBulk d + uptoBulkAll r
def uptoBulkEntries {H : Type} : List (Lit × DataW H) → Nat
  | [] => 0
  | x :: r => uptoBulkEntry x + uptoBulkEntries r
def uptoBulkEntry {H : Type} : Lit × DataW H → Nat
  | (.string bytes, d) => bytes.length + uptoBulk d + 1
  | (_, d) => uptoBulk d + 1
 end
def uptoSmall : (H : Type) → List (DataW H) → Bool := fun _ ds => decide (uptoBulkAll ds ≤ 1048576)
def OpenSpec.upto (s : _root_.Go.ChangeSpec) : _root_.Go.OpenSpec := { _root_.Go.OpenSpec.ofChange s with cond := some uptoSmall }

/-- 'laws.FnExactHoldsOnRun', WHERE WHAT IT READS IS OF BULK AT MOST 1048576: true; the input reads as it did. -/
def fnExactHoldsOnRunUptoRow : OpenClaim := { program := "ythapopegchnhlaagreat", sum := "fc8d2c49efc0e1690af82d7dff14a25b1b12f6d2f681acf1479388f69a64921b", func := "loop.example/wholecheck/laws.FnExactHoldsOnRun", spec := "fnExactHoldsOnRun", unfollowed := true, recurses := true, apart := false, narrowed := true }
def FnExactHoldsOnRunUptoSaid : Prop := fnExactHoldsOnRunUptoRow.holds Tryz.pinned (OpenSpec.upto fnExactHoldsOnRunSpec)

/-- 'laws.FnRulesApart', WHERE WHAT IT READS IS OF BULK AT MOST 1048576: true; the input reads as it did. -/
def fnRulesApartUptoRow : OpenClaim := { program := "ythapopegchnhlaagreat", sum := "fc8d2c49efc0e1690af82d7dff14a25b1b12f6d2f681acf1479388f69a64921b", func := "loop.example/wholecheck/laws.FnRulesApart", spec := "fnRulesApart", unfollowed := true, recurses := true, apart := false, narrowed := true }
def FnRulesApartUptoSaid : Prop := fnRulesApartUptoRow.holds Tryz.pinned (OpenSpec.upto fnRulesApartSpec)

/-- 'laws.FnExactCanReach', WHERE WHAT IT READS IS OF BULK AT MOST 1048576: true; the input reads as it did. -/
def fnExactCanReachUptoRow : OpenClaim := { program := "ythapopegchnhlaagreat", sum := "fc8d2c49efc0e1690af82d7dff14a25b1b12f6d2f681acf1479388f69a64921b", func := "loop.example/wholecheck/laws.FnExactCanReach", spec := "fnExactCanReach", inPlace := ["slices.overlaps[[]int]"], unfollowed := true, recurses := true, apart := false, narrowed := true }
def FnExactCanReachUptoSaid : Prop := fnExactCanReachUptoRow.holds Tryz.pinned (OpenSpec.upto fnExactCanReachSpec)

/-- 'laws.FnHoldsOnRun', WHERE WHAT IT READS IS OF BULK AT MOST 1048576: true; the input reads as it did. -/
def fnHoldsOnRunUptoRow : OpenClaim := { program := "ythapopegchnhlaagreat", sum := "fc8d2c49efc0e1690af82d7dff14a25b1b12f6d2f681acf1479388f69a64921b", func := "loop.example/wholecheck/laws.FnHoldsOnRun", spec := "fnHoldsOnRun", unfollowed := true, recurses := true, apart := false, narrowed := true }
def FnHoldsOnRunUptoSaid : Prop := fnHoldsOnRunUptoRow.holds Tryz.pinned (OpenSpec.upto fnHoldsOnRunSpec)

/-- 'laws.FnExactStubbornFrom', WHERE WHAT IT READS IS OF BULK AT MOST 1048576: true; the input reads as it did. -/
def fnExactStubbornFromUptoRow : OpenClaim := { program := "ythapopegchnhlaagreat", sum := "fc8d2c49efc0e1690af82d7dff14a25b1b12f6d2f681acf1479388f69a64921b", func := "loop.example/wholecheck/laws.FnExactStubbornFrom", spec := "fnExactStubbornFrom", unfollowed := true, recurses := true, apart := false, narrowed := true }
def FnExactStubbornFromUptoSaid : Prop := fnExactStubbornFromUptoRow.holds Tryz.pinned (OpenSpec.upto fnExactStubbornFromSpec)

/-- 'laws.FnExactStubbornIn', WHERE WHAT IT READS IS OF BULK AT MOST 1048576: true; the input reads as it did. -/
def fnExactStubbornInUptoRow : OpenClaim := { program := "ythapopegchnhlaagreat", sum := "fc8d2c49efc0e1690af82d7dff14a25b1b12f6d2f681acf1479388f69a64921b", func := "loop.example/wholecheck/laws.FnExactStubbornIn", spec := "fnExactStubbornIn", unfollowed := true, recurses := true, apart := false, narrowed := true }
def FnExactStubbornInUptoSaid : Prop := fnExactStubbornInUptoRow.holds Tryz.pinned (OpenSpec.upto fnExactStubbornInSpec)

end Rows
end Go.Proofs.YthapopegchnhlaaGreat
