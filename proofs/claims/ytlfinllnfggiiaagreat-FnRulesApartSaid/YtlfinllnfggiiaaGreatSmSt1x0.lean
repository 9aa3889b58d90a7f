/- Each function comes to its tree; no condition. -/
import Derived.Test.YtlfinllnfggiiaaGreatSmTab0
namespace Go.Proofs.YtlfinllnfggiiaaGreat
open Go Go.Sm Go.Sm.Q
set_option maxRecDepth 100000
theorem st_impl_kindsOf : symFn cx f_impl_kindsOf = some tr_impl_kindsOf := by kernel_rfl
theorem st_impl_kindOf : symFn cx f_impl_kindOf = some tr_impl_kindOf := by kernel_rfl
theorem st_impl_ruleOk : symFn cx f_impl_ruleOk = some tr_impl_ruleOk := by kernel_rfl
theorem st_impl_SystemValid : symFn cx f_impl_SystemValid = some tr_impl_SystemValid := by kernel_rfl
theorem st_slices_Index_Sint_int : symFn cx f_slices_Index_Sint_int = some tr_slices_Index_Sint_int := by kernel_rfl
theorem st_slices_Contains_Sint_int : symFn cx f_slices_Contains_Sint_int = some tr_slices_Contains_Sint_int := by kernel_rfl
theorem st_impl_meets : symFn cx f_impl_meets = some tr_impl_meets := by kernel_rfl
theorem st_impl_clone_int : symFn cx f_impl_clone_int = some tr_impl_clone_int := by kernel_rfl
theorem st_impl_usedBy : symFn cx f_impl_usedBy = some tr_impl_usedBy := by kernel_rfl
theorem st_math_bits_Len32 : symFn cx f_math_bits_Len32 = some tr_math_bits_Len32 := by kernel_rfl
theorem st_math_bits_Len64 : symFn cx f_math_bits_Len64 = some tr_math_bits_Len64 := by kernel_rfl
theorem st_math_bits_Len : symFn cx f_math_bits_Len = some tr_math_bits_Len := by kernel_rfl
theorem st_cmp_isNaN_int : symFn cx f_cmp_isNaN_int = some tr_cmp_isNaN_int := by kernel_rfl
theorem st_cmp_Less_int : symFn cx f_cmp_Less_int = some tr_cmp_Less_int := by kernel_rfl
theorem st_slices_insertionSortOrdered_int : symFn cx f_slices_insertionSortOrdered_int = some tr_slices_insertionSortOrdered_int := by kernel_rfl
theorem st_slices_siftDownOrdered_int : symFn cx f_slices_siftDownOrdered_int = some tr_slices_siftDownOrdered_int := by kernel_rfl
theorem st_slices_heapSortOrdered_int : symFn cx f_slices_heapSortOrdered_int = some tr_slices_heapSortOrdered_int := by kernel_rfl
theorem st_slices_nextPowerOfTwo : symFn cx f_slices_nextPowerOfTwo = some tr_slices_nextPowerOfTwo := by kernel_rfl
theorem st_slices_xorshift_Next : symFn cx f_slices_xorshift_Next = some tr_slices_xorshift_Next := by kernel_rfl
theorem st_slices_breakPatternsOrdered_int : symFn cx f_slices_breakPatternsOrdered_int = some tr_slices_breakPatternsOrdered_int := by kernel_rfl
theorem st_slices_order2Ordered_int : symFn cx f_slices_order2Ordered_int = some tr_slices_order2Ordered_int := by kernel_rfl
theorem st_slices_medianOrdered_int : symFn cx f_slices_medianOrdered_int = some tr_slices_medianOrdered_int := by kernel_rfl
theorem st_slices_medianAdjacentOrdered_int : symFn cx f_slices_medianAdjacentOrdered_int = some tr_slices_medianAdjacentOrdered_int := by kernel_rfl
theorem st_slices_choosePivotOrdered_int : symFn cx f_slices_choosePivotOrdered_int = some tr_slices_choosePivotOrdered_int := by kernel_rfl
theorem st_slices_reverseRangeOrdered_int : symFn cx f_slices_reverseRangeOrdered_int = some tr_slices_reverseRangeOrdered_int := by kernel_rfl
theorem st_slices_partialInsertionSortOrdered_int : symFn cx f_slices_partialInsertionSortOrdered_int = some tr_slices_partialInsertionSortOrdered_int := by kernel_rfl
theorem st_slices_partitionEqualOrdered_int : symFn cx f_slices_partitionEqualOrdered_int = some tr_slices_partitionEqualOrdered_int := by kernel_rfl
theorem st_slices_partitionOrdered_int : symFn cx f_slices_partitionOrdered_int = some tr_slices_partitionOrdered_int := by kernel_rfl
theorem st_slices_pdqsortOrdered_int : symFn cx f_slices_pdqsortOrdered_int = some tr_slices_pdqsortOrdered_int := by kernel_rfl
theorem st_impl_touchedBy : symFn cx f_impl_touchedBy = some tr_impl_touchedBy := by kernel_rfl
end Go.Proofs.YtlfinllnfggiiaaGreat
