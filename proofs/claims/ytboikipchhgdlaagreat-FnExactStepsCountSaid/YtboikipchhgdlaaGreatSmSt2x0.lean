/- Each function comes to its tree; no condition. -/
import Derived.Test.YtboikipchhgdlaaGreatSmTab0
namespace Go.Proofs.YtboikipchhgdlaaGreat
open Go Go.Sm Go.Sm.Q
set_option maxRecDepth 100000
theorem st_spec_StepsCount : symFn cx f_spec_StepsCount = some tr_spec_StepsCount := by kernel_rfl
theorem st_impl_in : symFn cx f_impl_in = some tr_impl_in := by kernel_rfl
theorem st_impl_varOk : symFn cx f_impl_varOk = some tr_impl_varOk := by kernel_rfl
theorem st_impl_size : symFn cx f_impl_size = some tr_impl_size := by kernel_rfl
theorem st_impl_parts : symFn cx f_impl_parts = some tr_impl_parts := by kernel_rfl
theorem st_impl_kindsOf : symFn cx f_impl_kindsOf = some tr_impl_kindsOf := by kernel_rfl
theorem st_impl_kindOf : symFn cx f_impl_kindOf = some tr_impl_kindOf := by kernel_rfl
theorem st_impl_ruleOk : symFn cx f_impl_ruleOk = some tr_impl_ruleOk := by kernel_rfl
theorem st_impl_SystemValid : symFn cx f_impl_SystemValid = some tr_impl_SystemValid := by kernel_rfl
theorem st_impl_bitsFor : symFn cx f_impl_bitsFor = some tr_impl_bitsFor := by kernel_rfl
theorem st_impl_clone_int : symFn cx f_impl_clone_int = some tr_impl_clone_int := by kernel_rfl
theorem st_impl_bitsOf : symFn cx f_impl_bitsOf = some tr_impl_bitsOf := by kernel_rfl
theorem st_impl_bitCount : symFn cx f_impl_bitCount = some tr_impl_bitCount := by kernel_rfl
theorem st_impl_halfNarrow : symFn cx f_impl_halfNarrow = some tr_impl_halfNarrow := by kernel_rfl
theorem st_impl_stateAt : symFn cx f_impl_stateAt = some tr_impl_stateAt := by kernel_rfl
theorem st_impl_held : symFn cx f_impl_held = some tr_impl_held := by kernel_rfl
theorem st_impl_bit : symFn cx f_impl_bit = some tr_impl_bit := by kernel_rfl
theorem st_impl_do : symFn cx f_impl_do = some tr_impl_do := by kernel_rfl
theorem st_impl_eval : symFn cx f_impl_eval = some tr_impl_eval := by kernel_rfl
theorem st_impl_inRange : symFn cx f_impl_inRange = some tr_impl_inRange := by kernel_rfl
theorem st_impl_use : symFn cx f_impl_use = some tr_impl_use := by kernel_rfl
theorem st_cmp_isNaN_int : symFn cx f_cmp_isNaN_int = some tr_cmp_isNaN_int := by kernel_rfl
theorem st_cmp_Compare_int : symFn cx f_cmp_Compare_int = some tr_cmp_Compare_int := by kernel_rfl
theorem st_slices_Compare_Sint_int : symFn cx f_slices_Compare_Sint_int = some tr_slices_Compare_Sint_int := by kernel_rfl
theorem st_slices_Reverse_SSint_Sint : symFn cx f_slices_Reverse_SSint_Sint = some tr_slices_Reverse_SSint_Sint := by kernel_rfl
theorem st_impl_clone_Sint : symFn cx f_impl_clone_Sint = some tr_impl_clone_Sint := by kernel_rfl
theorem st_impl_nextStates : symFn cx f_impl_nextStates = some tr_impl_nextStates := by kernel_rfl
theorem st_impl_number : symFn cx f_impl_number = some tr_impl_number := by kernel_rfl
theorem st_impl_nexts : symFn cx f_impl_nexts = some tr_impl_nexts := by kernel_rfl
theorem st_impl_StepsCount : symFn cx f_impl_StepsCount = some tr_impl_StepsCount := by kernel_rfl
end Go.Proofs.YtboikipchhgdlaaGreat
