/- All trees are those of the program; no condition. -/
import Derived.Test.YtlfinllnfggiiaaGreatSmSt0x0
import Derived.Test.YtlfinllnfggiiaaGreatSmSt1x0
import Derived.Test.YtlfinllnfggiiaaGreatSmSt2x0
import Derived.Test.YtlfinllnfggiiaaGreatSmSt3x0
namespace Go.Proofs.YtlfinllnfggiiaaGreat
open Go Go.Sm Go.Sm.Q
theorem find_all {α : Type} {p : Nat → α → Prop} : ∀ (l : List (Nat × α)), (∀ x ∈ l, p x.1 x.2) → ∀ f t, (l.find? (·.1 == f)).map (·.2) = some t → p f t := by
 intro l h f t ht
 obtain ⟨x, hx, rfl⟩ := Option.map_eq_some_iff.1 ht
 have h1 := List.find?_some hx
 simp only [beq_iff_eq] at h1
 exact h1 ▸ h x (List.mem_of_find?_eq_some hx)
theorem trees_ok : ∀ f t, mc.F f = some t → symFn cx f = some t := find_all trL (by
 intro x hx
 simp only [trL, List.mem_cons, List.not_mem_nil, or_false] at hx
 rcases hx with rfl | rfl | rfl | rfl | rfl | rfl | rfl | rfl | rfl | rfl | rfl | rfl | rfl | rfl | rfl | rfl | rfl | rfl | rfl | rfl | rfl | rfl | rfl | rfl | rfl | rfl | rfl | rfl | rfl | rfl | rfl | rfl | rfl | rfl | rfl | rfl | rfl | rfl | rfl | rfl | rfl | rfl | rfl | rfl | rfl | rfl | rfl | rfl | rfl | rfl | rfl | rfl | rfl | rfl | rfl | rfl | rfl | rfl | rfl | rfl | rfl | rfl | rfl | rfl | rfl | rfl | rfl | rfl | rfl | rfl | rfl | rfl | rfl | rfl | rfl | rfl | rfl | rfl | rfl | rfl | rfl | rfl | rfl | rfl | rfl | rfl | rfl | rfl | rfl | rfl | rfl
 ·exact st_spec_l40Open
 ·exact st_spec_l40Rd_pick
 ·exact st_spec_l40Rd_num
 ·exact st_spec_l2VarOf
 ·exact st_spec_l2Const
 ·exact st_spec_l2Cond
 ·exact st_spec_l1In
 ·exact st_spec_l1One
 ·exact st_spec_l1Kind
 ·exact st_spec_KindsOf
 ·exact st_spec_TermsValid
 ·exact st_spec_l1Moved
 ·exact st_spec_Joined
 ·exact st_spec_l2When
 ·exact st_spec_l1Number
 ·exact st_spec_l1Pick
 ·exact st_spec_l1Terms
 ·exact st_spec_l2Value
 ·exact st_spec_l2Rules
 ·exact st_spec_l2System
 ·exact st_spec_l2Any
 ·exact st_spec_Shifted
 ·exact st_spec_l26System
 ·exact st_spec_l2Some
 ·exact st_spec_l26Two
 ·exact st_spec_DrawRulesApart
 ·exact st_impl_in
 ·exact st_impl_varOk
 ·exact st_impl_size
 ·exact st_impl_parts
 ·exact st_impl_kindsOf
 ·exact st_impl_kindOf
 ·exact st_impl_ruleOk
 ·exact st_impl_SystemValid
 ·exact st_slices_Index_Sint_int
 ·exact st_slices_Contains_Sint_int
 ·exact st_impl_meets
 ·exact st_impl_clone_int
 ·exact st_impl_usedBy
 ·exact st_math_bits_Len32
 ·exact st_math_bits_Len64
 ·exact st_math_bits_Len
 ·exact st_cmp_isNaN_int
 ·exact st_cmp_Less_int
 ·exact st_slices_insertionSortOrdered_int
 ·exact st_slices_siftDownOrdered_int
 ·exact st_slices_heapSortOrdered_int
 ·exact st_slices_nextPowerOfTwo
 ·exact st_slices_xorshift_Next
 ·exact st_slices_breakPatternsOrdered_int
 ·exact st_slices_order2Ordered_int
 ·exact st_slices_medianOrdered_int
 ·exact st_slices_medianAdjacentOrdered_int
 ·exact st_slices_choosePivotOrdered_int
 ·exact st_slices_reverseRangeOrdered_int
 ·exact st_slices_partialInsertionSortOrdered_int
 ·exact st_slices_partitionEqualOrdered_int
 ·exact st_slices_partitionOrdered_int
 ·exact st_slices_pdqsortOrdered_int
 ·exact st_impl_touchedBy
 ·exact st_impl_rulesApart
 ·exact st_impl_RulesApart
 ·exact st_spec_l2Var
 ·exact st_spec_l2Is
 ·exact st_spec_l2Rule
 ·exact st_spec_SystemValid
 ·exact st_spec_l1Needed
 ·exact st_spec_UsedBy
 ·exact st_spec_l2Has
 ·exact st_spec_TouchedBy
 ·exact st_spec_l26Meet
 ·exact st_spec_l26Apart
 ·exact st_spec_RulesApart
 ·exact st_impl_SizeOf
 ·exact st_spec_SizeOf
 ·exact st_impl_stateAt
 ·exact st_impl_StateAt
 ·exact st_impl_inRange
 ·exact st_impl_InRange
 ·exact st_impl_held
 ·exact st_impl_bit
 ·exact st_impl_do
 ·exact st_impl_eval
 ·exact st_impl_use
 ·exact st_impl_Use
 ·exact st_slices_Equal_Sint_int
 ·exact st_impl_RulesCommute
 ·exact st_impl_wakersOf
 ·exact st_impl_WakersOf
 ·exact st_laws_wcHas
 ·exact st_laws_FnRulesApart)
end Go.Proofs.YtlfinllnfggiiaaGreat
