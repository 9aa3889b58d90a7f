/- Each function comes to its tree; no condition. -/
import Derived.Test.YtdcdnfcmllfmlaaGreatSmTab0
namespace Go.Proofs.YtdcdnfcmllfmlaaGreat
open Go Go.Sm Go.Sm.Q
set_option maxRecDepth 100000
theorem st_impl_SystemValid : symFn cx f_impl_SystemValid = some tr_impl_SystemValid := by kernel_rfl
theorem st_impl_stateAt : symFn cx f_impl_stateAt = some tr_impl_stateAt := by kernel_rfl
theorem st_impl_held : symFn cx f_impl_held = some tr_impl_held := by kernel_rfl
theorem st_impl_bit : symFn cx f_impl_bit = some tr_impl_bit := by kernel_rfl
theorem st_impl_do : symFn cx f_impl_do = some tr_impl_do := by kernel_rfl
theorem st_impl_eval : symFn cx f_impl_eval = some tr_impl_eval := by kernel_rfl
theorem st_impl_clone_int : symFn cx f_impl_clone_int = some tr_impl_clone_int := by kernel_rfl
theorem st_impl_inRange : symFn cx f_impl_inRange = some tr_impl_inRange := by kernel_rfl
theorem st_impl_use : symFn cx f_impl_use = some tr_impl_use := by kernel_rfl
theorem st_cmp_isNaN_int : symFn cx f_cmp_isNaN_int = some tr_cmp_isNaN_int := by kernel_rfl
theorem st_cmp_Compare_int : symFn cx f_cmp_Compare_int = some tr_cmp_Compare_int := by kernel_rfl
theorem st_slices_Compare_Sint_int : symFn cx f_slices_Compare_Sint_int = some tr_slices_Compare_Sint_int := by kernel_rfl
theorem st_slices_Reverse_SSint_Sint : symFn cx f_slices_Reverse_SSint_Sint = some tr_slices_Reverse_SSint_Sint := by kernel_rfl
theorem st_impl_clone_Sint : symFn cx f_impl_clone_Sint = some tr_impl_clone_Sint := by kernel_rfl
theorem st_impl_nextStates : symFn cx f_impl_nextStates = some tr_impl_nextStates := by kernel_rfl
theorem st_impl_number : symFn cx f_impl_number = some tr_impl_number := by kernel_rfl
theorem st_impl_nexts : symFn cx f_impl_nexts = some tr_impl_nexts := by kernel_rfl
theorem st_slices_Equal_Sint_int : symFn cx f_slices_Equal_Sint_int = some tr_slices_Equal_Sint_int := by kernel_rfl
theorem st_impl_InRange : symFn cx f_impl_InRange = some tr_impl_InRange := by kernel_rfl
theorem st_impl_ruleBetween : symFn cx f_impl_ruleBetween = some tr_impl_ruleBetween := by kernel_rfl
theorem st_spec_l2Is : symFn cx f_spec_l2Is = some tr_spec_l2Is := by kernel_rfl
theorem st_spec_l2Rule : symFn cx f_spec_l2Rule = some tr_spec_l2Rule := by kernel_rfl
theorem st_spec_SystemValid : symFn cx f_spec_SystemValid = some tr_spec_SystemValid := by kernel_rfl
theorem st_spec_SizeOf : symFn cx f_spec_SizeOf = some tr_spec_SizeOf := by kernel_rfl
theorem st_spec_FirstState : symFn cx f_spec_FirstState = some tr_spec_FirstState := by kernel_rfl
theorem st_spec_l3Copy : symFn cx f_spec_l3Copy = some tr_spec_l3Copy := by kernel_rfl
theorem st_spec_l4State : symFn cx f_spec_l4State = some tr_spec_l4State := by kernel_rfl
theorem st_spec_l1Held : symFn cx f_spec_l1Held = some tr_spec_l1Held := by kernel_rfl
theorem st_spec_l1Truth : symFn cx f_spec_l1Truth = some tr_spec_l1Truth := by kernel_rfl
theorem st_spec_l1Do : symFn cx f_spec_l1Do = some tr_spec_l1Do := by kernel_rfl
end Go.Proofs.YtdcdnfcmllfmlaaGreat
