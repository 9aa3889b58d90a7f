/- Each function comes to its tree; no condition. -/
import Derived.Test.YtdcdnfcmllfmlaaGreatSmTab0
namespace Go.Proofs.YtdcdnfcmllfmlaaGreat
open Go Go.Sm Go.Sm.Q
set_option maxRecDepth 100000
theorem st_impl_TraceValid : symFn cx f_impl_TraceValid = some tr_impl_TraceValid := by kernel_rfl
theorem st_spec_DrawAlways : symFn cx f_spec_DrawAlways = some tr_spec_DrawAlways := by kernel_rfl
theorem st_slices_Clone_Sint_int : symFn cx f_slices_Clone_Sint_int = some tr_slices_Clone_Sint_int := by kernel_rfl
theorem st_impl_reach : symFn cx f_impl_reach = some tr_impl_reach := by kernel_rfl
theorem st_impl_reachOf : symFn cx f_impl_reachOf = some tr_impl_reachOf := by kernel_rfl
theorem st_impl_always : symFn cx f_impl_always = some tr_impl_always := by kernel_rfl
theorem st_impl_Always : symFn cx f_impl_Always = some tr_impl_Always := by kernel_rfl
theorem st_spec_StepsTo : symFn cx f_spec_StepsTo = some tr_spec_StepsTo := by kernel_rfl
theorem st_spec_l5Told : symFn cx f_spec_l5Told = some tr_spec_l5Told := by kernel_rfl
theorem st_spec_l4List : symFn cx f_spec_l4List = some tr_spec_l4List := by kernel_rfl
theorem st_spec_ReachOf : symFn cx f_spec_ReachOf = some tr_spec_ReachOf := by kernel_rfl
theorem st_spec_l4Set : symFn cx f_spec_l4Set = some tr_spec_l4Set := by kernel_rfl
theorem st_spec_l4Mix : symFn cx f_spec_l4Mix = some tr_spec_l4Mix := by kernel_rfl
theorem st_spec_SetWithout : symFn cx f_spec_SetWithout = some tr_spec_SetWithout := by kernel_rfl
theorem st_spec_Always : symFn cx f_spec_Always = some tr_spec_Always := by kernel_rfl
theorem st_impl_TermsValid : symFn cx f_impl_TermsValid = some tr_impl_TermsValid := by kernel_rfl
theorem st_slices_Clone_Simpl_Term_impl_Term : symFn cx f_slices_Clone_Simpl_Term_impl_Term = some tr_slices_Clone_Simpl_Term_impl_Term := by kernel_rfl
theorem st_impl_joined : symFn cx f_impl_joined = some tr_impl_joined := by kernel_rfl
theorem st_impl_clone_impl_Term : symFn cx f_impl_clone_impl_Term = some tr_impl_clone_impl_Term := by kernel_rfl
theorem st_impl_Joined : symFn cx f_impl_Joined = some tr_impl_Joined := by kernel_rfl
theorem st_impl_ReachOf : symFn cx f_impl_ReachOf = some tr_impl_ReachOf := by kernel_rfl
theorem st_impl_setOk : symFn cx f_impl_setOk = some tr_impl_setOk := by kernel_rfl
theorem st_impl_SetValid : symFn cx f_impl_SetValid = some tr_impl_SetValid := by kernel_rfl
theorem st_impl_marks : symFn cx f_impl_marks = some tr_impl_marks := by kernel_rfl
theorem st_impl_over : symFn cx f_impl_over = some tr_impl_over := by kernel_rfl
theorem st_impl_closed : symFn cx f_impl_closed = some tr_impl_closed := by kernel_rfl
theorem st_impl_Closed : symFn cx f_impl_Closed = some tr_impl_Closed := by kernel_rfl
theorem st_impl_Proves : symFn cx f_impl_Proves = some tr_impl_Proves := by kernel_rfl
theorem st_impl_stateOk : symFn cx f_impl_stateOk = some tr_impl_stateOk := by kernel_rfl
theorem st_impl_Eval : symFn cx f_impl_Eval = some tr_impl_Eval := by kernel_rfl
end Go.Proofs.YtdcdnfcmllfmlaaGreat
