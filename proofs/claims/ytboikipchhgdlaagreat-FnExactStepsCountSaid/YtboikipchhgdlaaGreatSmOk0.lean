/- All trees are those of the program; no condition. -/
import Derived.Test.YtboikipchhgdlaaGreatSmSt0x0
import Derived.Test.YtboikipchhgdlaaGreatSmSt1x0
import Derived.Test.YtboikipchhgdlaaGreatSmSt2x0
import Derived.Test.YtboikipchhgdlaaGreatSmSt3x0
namespace Go.Proofs.YtboikipchhgdlaaGreat
open Go Go.Sm Go.Sm.Q
theorem find_all {α : Type} {p : Nat → α → Prop} : ∀ (l : List (Nat × α)), (∀ x ∈ l, p x.1 x.2) → ∀ f t, (l.find? (·.1 == f)).map (·.2) = some t → p f t := by
 intro l h f t ht
 obtain ⟨x, hx, rfl⟩ := Option.map_eq_some_iff.1 ht
 have h1 := List.find?_some hx
 simp only [beq_iff_eq] at h1
 exact h1 ▸ h x (List.mem_of_find?_eq_some hx)
theorem trees_ok : ∀ f t, mc.F f = some t → symFn cx f = some t := find_all trL (by
 intro x hx
 simp only [trL, List.mem_cons, List.not_mem_nil, or_false] at hx
 rcases hx with rfl | rfl | rfl | rfl | rfl | rfl | rfl | rfl | rfl | rfl | rfl | rfl | rfl | rfl | rfl | rfl | rfl | rfl | rfl | rfl | rfl | rfl | rfl | rfl | rfl | rfl | rfl | rfl | rfl | rfl | rfl | rfl | rfl | rfl | rfl | rfl | rfl | rfl | rfl | rfl | rfl | rfl | rfl | rfl | rfl | rfl | rfl | rfl | rfl | rfl | rfl | rfl | rfl | rfl | rfl | rfl | rfl | rfl | rfl | rfl | rfl | rfl | rfl | rfl | rfl | rfl | rfl | rfl | rfl | rfl | rfl | rfl | rfl | rfl | rfl | rfl | rfl | rfl | rfl | rfl | rfl | rfl | rfl | rfl | rfl | rfl | rfl | rfl | rfl | rfl | rfl | rfl | rfl | rfl | rfl | rfl | rfl | rfl | rfl | rfl
 ·exact st_laws_szVarS
 ·exact st_laws_szTermS
 ·exact st_laws_szIntS
 ·exact st_laws_szTermSS
 ·exact st_laws_szRule
 ·exact st_laws_szRuleS
 ·exact st_laws_szSystem
 ·exact st_laws_toVar
 ·exact st_laws_toVarS
 ·exact st_laws_toTerm
 ·exact st_laws_toTermS
 ·exact st_laws_toIntS
 ·exact st_laws_toTermSS
 ·exact st_laws_toRule
 ·exact st_laws_toRuleS
 ·exact st_laws_toSystem
 ·exact st_spec_l1In
 ·exact st_spec_l2Var
 ·exact st_spec_l1One
 ·exact st_spec_l1Kind
 ·exact st_spec_KindsOf
 ·exact st_spec_l2Is
 ·exact st_spec_l2Rule
 ·exact st_spec_SystemValid
 ·exact st_spec_l6Many
 ·exact st_spec_l6Widths
 ·exact st_spec_l6Sum
 ·exact st_spec_l10Wide
 ·exact st_spec_SizeOf
 ·exact st_spec_FirstState
 ·exact st_spec_l3Copy
 ·exact st_spec_l4State
 ·exact st_spec_l1Held
 ·exact st_spec_l1Truth
 ·exact st_spec_l1Do
 ·exact st_spec_l1Values
 ·exact st_spec_l2Last
 ·exact st_spec_l2In
 ·exact st_spec_l2Use
 ·exact st_spec_l2Same
 ·exact st_spec_l2Less
 ·exact st_spec_l2Put
 ·exact st_spec_l2Next
 ·exact st_spec_l4Number
 ·exact st_spec_l4Steps
 ·exact st_spec_l6Value
 ·exact st_spec_l6State
 ·exact st_spec_l10Both
 ·exact st_spec_l10Steps
 ·exact st_spec_l6Number
 ·exact st_spec_l8Add
 ·exact st_spec_l8Rows
 ·exact st_spec_l10Of
 ·exact st_spec_StepDiagram
 ·exact st_spec_l8Var
 ·exact st_spec_l8Fork
 ·exact st_spec_DiagramValid
 ·exact st_spec_l8Place
 ·exact st_spec_l8Count
 ·exact st_spec_DiagramCount
 ·exact st_spec_StepsCount
 ·exact st_impl_in
 ·exact st_impl_varOk
 ·exact st_impl_size
 ·exact st_impl_parts
 ·exact st_impl_kindsOf
 ·exact st_impl_kindOf
 ·exact st_impl_ruleOk
 ·exact st_impl_SystemValid
 ·exact st_impl_bitsFor
 ·exact st_impl_clone_int
 ·exact st_impl_bitsOf
 ·exact st_impl_bitCount
 ·exact st_impl_halfNarrow
 ·exact st_impl_stateAt
 ·exact st_impl_held
 ·exact st_impl_bit
 ·exact st_impl_do
 ·exact st_impl_eval
 ·exact st_impl_inRange
 ·exact st_impl_use
 ·exact st_cmp_isNaN_int
 ·exact st_cmp_Compare_int
 ·exact st_slices_Compare_Sint_int
 ·exact st_slices_Reverse_SSint_Sint
 ·exact st_impl_clone_Sint
 ·exact st_impl_nextStates
 ·exact st_impl_number
 ·exact st_impl_nexts
 ·exact st_impl_StepsCount
 ·exact st_laws_eqVar
 ·exact st_laws_eqVarS
 ·exact st_laws_eqTerm
 ·exact st_laws_eqTermS
 ·exact st_laws_eqIntS
 ·exact st_laws_eqTermSS
 ·exact st_laws_eqRule
 ·exact st_laws_eqRuleS
 ·exact st_laws_eqSystem
 ·exact st_laws_FnExactStepsCount)
end Go.Proofs.YtboikipchhgdlaaGreat
