/- Each function comes to its tree; no condition. -/
import Derived.Test.YthapopegchnhlaaGreatSmTab0
namespace Go.Proofs.YthapopegchnhlaaGreat
open Go Go.Sm Go.Sm.Q
set_option maxRecDepth 100000
theorem st_cmp_isNaN_int : symFn cx f_cmp_isNaN_int = some tr_cmp_isNaN_int := by kernel_rfl
theorem st_spec_l2Has : symFn cx f_spec_l2Has = some tr_spec_l2Has := by kernel_rfl
theorem st_spec_SizeOf : symFn cx f_spec_SizeOf = some tr_spec_SizeOf := by kernel_rfl
theorem st_impl_stateAt : symFn cx f_impl_stateAt = some tr_impl_stateAt := by kernel_rfl
theorem st_spec_SetValid : symFn cx f_spec_SetValid = some tr_spec_SetValid := by kernel_rfl
theorem st_spec_l3Copy : symFn cx f_spec_l3Copy = some tr_spec_l3Copy := by kernel_rfl
theorem st_spec_l4State : symFn cx f_spec_l4State = some tr_spec_l4State := by kernel_rfl
theorem st_spec_l4Number : symFn cx f_spec_l4Number = some tr_spec_l4Number := by kernel_rfl
theorem st_spec_l4Steps : symFn cx f_spec_l4Steps = some tr_spec_l4Steps := by kernel_rfl
theorem st_spec_l5Turned : symFn cx f_spec_l5Turned = some tr_spec_l5Turned := by kernel_rfl
theorem st_spec_l4Marks : symFn cx f_spec_l4Marks = some tr_spec_l4Marks := by kernel_rfl
theorem st_spec_l5Steps : symFn cx f_spec_l5Steps = some tr_spec_l5Steps := by kernel_rfl
theorem st_spec_l5Told : symFn cx f_spec_l5Told = some tr_spec_l5Told := by kernel_rfl
theorem st_spec_l4List : symFn cx f_spec_l4List = some tr_spec_l4List := by kernel_rfl
theorem st_spec_CanReach : symFn cx f_spec_CanReach = some tr_spec_CanReach := by kernel_rfl
theorem st_impl_setOk : symFn cx f_impl_setOk = some tr_impl_setOk := by kernel_rfl
theorem st_impl_SetValid : symFn cx f_impl_SetValid = some tr_impl_SetValid := by kernel_rfl
theorem st_cmp_Compare_int : symFn cx f_cmp_Compare_int = some tr_cmp_Compare_int := by kernel_rfl
theorem st_slices_Compare_Sint_int : symFn cx f_slices_Compare_Sint_int = some tr_slices_Compare_Sint_int := by kernel_rfl
theorem st_slices_Reverse_SSint_Sint : symFn cx f_slices_Reverse_SSint_Sint = some tr_slices_Reverse_SSint_Sint := by kernel_rfl
theorem st_impl_clone_Sint : symFn cx f_impl_clone_Sint = some tr_impl_clone_Sint := by kernel_rfl
theorem st_impl_nextStates : symFn cx f_impl_nextStates = some tr_impl_nextStates := by kernel_rfl
theorem st_impl_number : symFn cx f_impl_number = some tr_impl_number := by kernel_rfl
theorem st_impl_nexts : symFn cx f_impl_nexts = some tr_impl_nexts := by kernel_rfl
theorem st_impl_pasts : symFn cx f_impl_pasts = some tr_impl_pasts := by kernel_rfl
theorem st_impl_reach : symFn cx f_impl_reach = some tr_impl_reach := by kernel_rfl
theorem st_impl_listOf : symFn cx f_impl_listOf = some tr_impl_listOf := by kernel_rfl
theorem st_impl_CanReach : symFn cx f_impl_CanReach = some tr_impl_CanReach := by kernel_rfl
theorem st_laws_markVarS : symFn cx f_laws_markVarS = some tr_laws_markVarS := by kernel_rfl
theorem st_laws_markTermS : symFn cx f_laws_markTermS = some tr_laws_markTermS := by kernel_rfl
end Go.Proofs.YthapopegchnhlaaGreat
