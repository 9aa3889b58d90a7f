/- All trees are those of the program; no condition. -/
import Derived.Test.YtdcdnfcmllfmlaaGreatSmSt0x0
import Derived.Test.YtdcdnfcmllfmlaaGreatSmSt1x0
import Derived.Test.YtdcdnfcmllfmlaaGreatSmSt2x0
import Derived.Test.YtdcdnfcmllfmlaaGreatSmSt3x0
namespace Go.Proofs.YtdcdnfcmllfmlaaGreat
open Go Go.Sm Go.Sm.Q
theorem find_all {α : Type} {p : Nat → α → Prop} : ∀ (l : List (Nat × α)), (∀ x ∈ l, p x.1 x.2) → ∀ f t, (l.find? (·.1 == f)).map (·.2) = some t → p f t := by
 intro l h f t ht
 obtain ⟨x, hx, rfl⟩ := Option.map_eq_some_iff.1 ht
 have h1 := List.find?_some hx
 simp only [beq_iff_eq] at h1
 exact h1 ▸ h x (List.mem_of_find?_eq_some hx)
theorem trees_ok : ∀ f t, mc.F f = some t → symFn cx f = some t := find_all trL (by
 intro x hx
 simp only [trL, List.mem_cons, List.not_mem_nil, or_false] at hx
 rcases hx with rfl | rfl | rfl | rfl | rfl | rfl | rfl | rfl | rfl | rfl | rfl | rfl | rfl | rfl | rfl | rfl | rfl | rfl | rfl | rfl | rfl | rfl | rfl | rfl | rfl | rfl | rfl | rfl | rfl | rfl | rfl | rfl | rfl | rfl | rfl | rfl | rfl | rfl | rfl | rfl | rfl | rfl | rfl | rfl | rfl | rfl | rfl | rfl | rfl | rfl | rfl | rfl | rfl | rfl | rfl | rfl | rfl | rfl | rfl | rfl | rfl | rfl | rfl | rfl | rfl | rfl | rfl | rfl | rfl | rfl | rfl | rfl | rfl | rfl | rfl | rfl | rfl | rfl | rfl | rfl | rfl | rfl | rfl | rfl | rfl | rfl | rfl | rfl | rfl | rfl | rfl | rfl | rfl | rfl | rfl | rfl | rfl | rfl | rfl | rfl | rfl | rfl
 ·exact st_spec_l40Open
 ·exact st_spec_l40Rd_pick
 ·exact st_spec_l40Rd_num
 ·exact st_spec_l2VarOf
 ·exact st_spec_l2Const
 ·exact st_spec_l2Cond
 ·exact st_spec_l1In
 ·exact st_spec_l1One
 ·exact st_spec_l1Kind
 ·exact st_spec_KindsOf
 ·exact st_spec_TermsValid
 ·exact st_spec_l1Moved
 ·exact st_spec_Joined
 ·exact st_spec_l2When
 ·exact st_spec_l1Number
 ·exact st_spec_l1Pick
 ·exact st_spec_l1Terms
 ·exact st_spec_l2Value
 ·exact st_spec_l2Rules
 ·exact st_spec_l2System
 ·exact st_spec_l2Any
 ·exact st_spec_l1Any
 ·exact st_spec_l2Var
 ·exact st_spec_l5Draw
 ·exact st_spec_DrawWayTo
 ·exact st_impl_in
 ·exact st_impl_varOk
 ·exact st_impl_size
 ·exact st_impl_parts
 ·exact st_impl_kindsOf
 ·exact st_impl_kindOf
 ·exact st_impl_ruleOk
 ·exact st_impl_SystemValid
 ·exact st_impl_truthOf
 ·exact st_impl_stateAt
 ·exact st_impl_held
 ·exact st_impl_bit
 ·exact st_impl_do
 ·exact st_impl_eval
 ·exact st_impl_where
 ·exact st_impl_clone_int
 ·exact st_impl_listOf
 ·exact st_impl_inRange
 ·exact st_impl_use
 ·exact st_cmp_isNaN_int
 ·exact st_cmp_Compare_int
 ·exact st_slices_Compare_Sint_int
 ·exact st_slices_Reverse_SSint_Sint
 ·exact st_impl_clone_Sint
 ·exact st_impl_nextStates
 ·exact st_impl_number
 ·exact st_impl_nexts
 ·exact st_impl_first
 ·exact st_math_bits_Mul32
 ·exact st_math_bits_Mul64
 ·exact st_math_bits_Mul
 ·exact st_slices_Repeat_Sint_int
 ·exact st_impl_steps
 ·exact st_impl_pasts
 ·exact st_slices_Equal_Sint_int
 ·exact st_impl_lists
 ·exact st_impl_InRange
 ·exact st_impl_ruleBetween
 ·exact st_impl_RuleBetween
 ·exact st_impl_TraceOf
 ·exact st_impl_WayTo
 ·exact st_spec_l2Is
 ·exact st_spec_l2Rule
 ·exact st_spec_SystemValid
 ·exact st_spec_SizeOf
 ·exact st_spec_FirstState
 ·exact st_spec_l3Copy
 ·exact st_spec_l4State
 ·exact st_spec_l1Held
 ·exact st_spec_l1Truth
 ·exact st_spec_l1Do
 ·exact st_spec_l1Values
 ·exact st_spec_l2Last
 ·exact st_spec_l2In
 ·exact st_spec_l2Use
 ·exact st_spec_l2Same
 ·exact st_spec_l2Less
 ·exact st_spec_l2Put
 ·exact st_spec_l2Next
 ·exact st_spec_l4Number
 ·exact st_spec_l4Steps
 ·exact st_spec_l4Marks
 ·exact st_spec_l5First
 ·exact st_spec_l5Steps
 ·exact st_spec_StatesWhere
 ·exact st_spec_l5Nearest
 ·exact st_spec_l2Has
 ·exact st_spec_l5Back
 ·exact st_spec_l3Between
 ·exact st_spec_TraceOf
 ·exact st_spec_WayTo
 ·exact st_impl_StepsTo
 ·exact st_impl_NumberOf
 ·exact st_laws_wcInts
 ·exact st_impl_StatesWhere
 ·exact st_impl_TraceValid
 ·exact st_laws_FnShortest)
end Go.Proofs.YtdcdnfcmllfmlaaGreat
