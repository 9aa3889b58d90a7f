/- Each function comes to its tree; no condition. -/
import Derived.Test.YtboikipchhgdlaaGreatSmTab0
namespace Go.Proofs.YtboikipchhgdlaaGreat
open Go Go.Sm Go.Sm.Q
set_option maxRecDepth 100000
theorem st_impl_bit : symFn cx f_impl_bit = some tr_impl_bit := by kernel_rfl
theorem st_impl_do : symFn cx f_impl_do = some tr_impl_do := by kernel_rfl
theorem st_impl_eval : symFn cx f_impl_eval = some tr_impl_eval := by kernel_rfl
theorem st_impl_inRange : symFn cx f_impl_inRange = some tr_impl_inRange := by kernel_rfl
theorem st_impl_use : symFn cx f_impl_use = some tr_impl_use := by kernel_rfl
theorem st_cmp_isNaN_int : symFn cx f_cmp_isNaN_int = some tr_cmp_isNaN_int := by kernel_rfl
theorem st_cmp_Compare_int : symFn cx f_cmp_Compare_int = some tr_cmp_Compare_int := by kernel_rfl
theorem st_slices_Compare_Sint_int : symFn cx f_slices_Compare_Sint_int = some tr_slices_Compare_Sint_int := by kernel_rfl
theorem st_slices_Reverse_SSint_Sint : symFn cx f_slices_Reverse_SSint_Sint = some tr_slices_Reverse_SSint_Sint := by kernel_rfl
theorem st_impl_clone_Sint : symFn cx f_impl_clone_Sint = some tr_impl_clone_Sint := by kernel_rfl
theorem st_impl_nextStates : symFn cx f_impl_nextStates = some tr_impl_nextStates := by kernel_rfl
theorem st_impl_number : symFn cx f_impl_number = some tr_impl_number := by kernel_rfl
theorem st_impl_nexts : symFn cx f_impl_nexts = some tr_impl_nexts := by kernel_rfl
theorem st_impl_StepsCount : symFn cx f_impl_StepsCount = some tr_impl_StepsCount := by kernel_rfl
theorem st_spec_l40Open : symFn cx f_spec_l40Open = some tr_spec_l40Open := by kernel_rfl
theorem st_spec_l40Rd_pick : symFn cx f_spec_l40Rd_pick = some tr_spec_l40Rd_pick := by kernel_rfl
theorem st_spec_l40Rd_num : symFn cx f_spec_l40Rd_num = some tr_spec_l40Rd_num := by kernel_rfl
theorem st_spec_l2VarOf : symFn cx f_spec_l2VarOf = some tr_spec_l2VarOf := by kernel_rfl
theorem st_spec_l2Const : symFn cx f_spec_l2Const = some tr_spec_l2Const := by kernel_rfl
theorem st_spec_l2Cond : symFn cx f_spec_l2Cond = some tr_spec_l2Cond := by kernel_rfl
theorem st_spec_TermsValid : symFn cx f_spec_TermsValid = some tr_spec_TermsValid := by kernel_rfl
theorem st_spec_l1Moved : symFn cx f_spec_l1Moved = some tr_spec_l1Moved := by kernel_rfl
theorem st_spec_Joined : symFn cx f_spec_Joined = some tr_spec_Joined := by kernel_rfl
theorem st_spec_l2When : symFn cx f_spec_l2When = some tr_spec_l2When := by kernel_rfl
theorem st_spec_l1Number : symFn cx f_spec_l1Number = some tr_spec_l1Number := by kernel_rfl
theorem st_spec_l1Pick : symFn cx f_spec_l1Pick = some tr_spec_l1Pick := by kernel_rfl
theorem st_spec_l1Terms : symFn cx f_spec_l1Terms = some tr_spec_l1Terms := by kernel_rfl
theorem st_spec_l2Value : symFn cx f_spec_l2Value = some tr_spec_l2Value := by kernel_rfl
theorem st_spec_l2Rules : symFn cx f_spec_l2Rules = some tr_spec_l2Rules := by kernel_rfl
theorem st_spec_l2System : symFn cx f_spec_l2System = some tr_spec_l2System := by kernel_rfl
end Go.Proofs.YtboikipchhgdlaaGreat
