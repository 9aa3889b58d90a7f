/- Each function comes to its tree; no condition. -/
import Derived.Test.YtinfckfdphemiaaGreatSmTab0
/- Printed by a program: the functions come to their trees. -/
namespace Go.Proofs.YtinfckfdphemiaaGreat
open Go Go.Sm Go.Sm.Q
set_option maxRecDepth 100000
theorem st_spec_SizeOf : symFn cx f_spec_SizeOf = some tr_spec_SizeOf := by kernel_rfl
theorem st_spec_SetValid : symFn cx f_spec_SetValid = some tr_spec_SetValid := by kernel_rfl
theorem st_spec_l19Steps : symFn cx f_spec_l19Steps = some tr_spec_l19Steps := by kernel_rfl
theorem st_spec_l3Copy : symFn cx f_spec_l3Copy = some tr_spec_l3Copy := by kernel_rfl
theorem st_spec_l4State : symFn cx f_spec_l4State = some tr_spec_l4State := by kernel_rfl
theorem st_spec_l4Number : symFn cx f_spec_l4Number = some tr_spec_l4Number := by kernel_rfl
theorem st_spec_l4Steps : symFn cx f_spec_l4Steps = some tr_spec_l4Steps := by kernel_rfl
theorem st_spec_l4Marks : symFn cx f_spec_l4Marks = some tr_spec_l4Marks := by kernel_rfl
theorem st_spec_l4Ahead : symFn cx f_spec_l4Ahead = some tr_spec_l4Ahead := by kernel_rfl
theorem st_spec_l4List : symFn cx f_spec_l4List = some tr_spec_l4List := by kernel_rfl
theorem st_spec_l19Back : symFn cx f_spec_l19Back = some tr_spec_l19Back := by kernel_rfl
theorem st_spec_BackWithin : symFn cx f_spec_BackWithin = some tr_spec_BackWithin := by kernel_rfl
theorem st_impl_setOk : symFn cx f_impl_setOk = some tr_impl_setOk := by kernel_rfl
theorem st_impl_SetValid : symFn cx f_impl_SetValid = some tr_impl_SetValid := by kernel_rfl
theorem st_impl_stateAt : symFn cx f_impl_stateAt = some tr_impl_stateAt := by kernel_rfl
theorem st_cmp_isNaN_int : symFn cx f_cmp_isNaN_int = some tr_cmp_isNaN_int := by kernel_rfl
theorem st_cmp_Compare_int : symFn cx f_cmp_Compare_int = some tr_cmp_Compare_int := by kernel_rfl
theorem st_slices_Compare_Sint_int : symFn cx f_slices_Compare_Sint_int = some tr_slices_Compare_Sint_int := by kernel_rfl
theorem st_impl_clone_Sint : symFn cx f_impl_clone_Sint = some tr_impl_clone_Sint := by kernel_rfl
theorem st_impl_nextStates : symFn cx f_impl_nextStates = some tr_impl_nextStates := by kernel_rfl
theorem st_impl_number : symFn cx f_impl_number = some tr_impl_number := by kernel_rfl
theorem st_impl_nexts : symFn cx f_impl_nexts = some tr_impl_nexts := by kernel_rfl
theorem st_impl_pasts : symFn cx f_impl_pasts = some tr_impl_pasts := by kernel_rfl
theorem st_impl_marks : symFn cx f_impl_marks = some tr_impl_marks := by kernel_rfl
theorem st_impl_listOf : symFn cx f_impl_listOf = some tr_impl_listOf := by kernel_rfl
theorem st_impl_over : symFn cx f_impl_over = some tr_impl_over := by kernel_rfl
theorem st_impl_within : symFn cx f_impl_within = some tr_impl_within := by kernel_rfl
theorem st_impl_withinOf : symFn cx f_impl_withinOf = some tr_impl_withinOf := by kernel_rfl
theorem st_impl_BackWithin : symFn cx f_impl_BackWithin = some tr_impl_BackWithin := by kernel_rfl
theorem st_laws_markVarS : symFn cx f_laws_markVarS = some tr_laws_markVarS := by kernel_rfl
end Go.Proofs.YtinfckfdphemiaaGreat
