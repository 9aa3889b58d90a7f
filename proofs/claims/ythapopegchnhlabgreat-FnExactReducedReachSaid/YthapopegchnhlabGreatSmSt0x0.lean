/- Each function comes to its tree; no condition. -/
import Derived.Test.YthapopegchnhlabGreatSmTab0
namespace Go.Proofs.YthapopegchnhlabGreat
open Go Go.Sm Go.Sm.Q
set_option maxRecDepth 100000
theorem st_spec_l1In : symFn cx f_spec_l1In = some tr_spec_l1In := by kernel_rfl
theorem st_spec_l1One : symFn cx f_spec_l1One = some tr_spec_l1One := by kernel_rfl
theorem st_spec_l1Kind : symFn cx f_spec_l1Kind = some tr_spec_l1Kind := by kernel_rfl
theorem st_spec_KindsOf : symFn cx f_spec_KindsOf = some tr_spec_KindsOf := by kernel_rfl
theorem st_spec_TermsValid : symFn cx f_spec_TermsValid = some tr_spec_TermsValid := by kernel_rfl
theorem st_impl_in : symFn cx f_impl_in = some tr_impl_in := by kernel_rfl
theorem st_impl_varOk : symFn cx f_impl_varOk = some tr_impl_varOk := by kernel_rfl
theorem st_impl_size : symFn cx f_impl_size = some tr_impl_size := by kernel_rfl
theorem st_impl_parts : symFn cx f_impl_parts = some tr_impl_parts := by kernel_rfl
theorem st_impl_kindsOf : symFn cx f_impl_kindsOf = some tr_impl_kindsOf := by kernel_rfl
theorem st_impl_kindOf : symFn cx f_impl_kindOf = some tr_impl_kindOf := by kernel_rfl
theorem st_impl_ruleOk : symFn cx f_impl_ruleOk = some tr_impl_ruleOk := by kernel_rfl
theorem st_impl_SystemValid : symFn cx f_impl_SystemValid = some tr_impl_SystemValid := by kernel_rfl
theorem st_impl_inRange : symFn cx f_impl_inRange = some tr_impl_inRange := by kernel_rfl
theorem st_slices_Index_Sint_int : symFn cx f_slices_Index_Sint_int = some tr_slices_Index_Sint_int := by kernel_rfl
theorem st_slices_Contains_Sint_int : symFn cx f_slices_Contains_Sint_int = some tr_slices_Contains_Sint_int := by kernel_rfl
theorem st_impl_meets : symFn cx f_impl_meets = some tr_impl_meets := by kernel_rfl
theorem st_impl_clone_int : symFn cx f_impl_clone_int = some tr_impl_clone_int := by kernel_rfl
theorem st_impl_usedBy : symFn cx f_impl_usedBy = some tr_impl_usedBy := by kernel_rfl
theorem st_math_bits_Len32 : symFn cx f_math_bits_Len32 = some tr_math_bits_Len32 := by kernel_rfl
theorem st_math_bits_Len64 : symFn cx f_math_bits_Len64 = some tr_math_bits_Len64 := by kernel_rfl
theorem st_math_bits_Len : symFn cx f_math_bits_Len = some tr_math_bits_Len := by kernel_rfl
theorem st_cmp_isNaN_int : symFn cx f_cmp_isNaN_int = some tr_cmp_isNaN_int := by kernel_rfl
theorem st_cmp_Less_int : symFn cx f_cmp_Less_int = some tr_cmp_Less_int := by kernel_rfl
theorem st_slices_insertionSortOrdered_int : symFn cx f_slices_insertionSortOrdered_int = some tr_slices_insertionSortOrdered_int := by kernel_rfl
theorem st_slices_siftDownOrdered_int : symFn cx f_slices_siftDownOrdered_int = some tr_slices_siftDownOrdered_int := by kernel_rfl
theorem st_slices_heapSortOrdered_int : symFn cx f_slices_heapSortOrdered_int = some tr_slices_heapSortOrdered_int := by kernel_rfl
theorem st_slices_nextPowerOfTwo : symFn cx f_slices_nextPowerOfTwo = some tr_slices_nextPowerOfTwo := by kernel_rfl
theorem st_slices_xorshift_Next : symFn cx f_slices_xorshift_Next = some tr_slices_xorshift_Next := by kernel_rfl
theorem st_slices_breakPatternsOrdered_int : symFn cx f_slices_breakPatternsOrdered_int = some tr_slices_breakPatternsOrdered_int := by kernel_rfl
end Go.Proofs.YthapopegchnhlabGreat
