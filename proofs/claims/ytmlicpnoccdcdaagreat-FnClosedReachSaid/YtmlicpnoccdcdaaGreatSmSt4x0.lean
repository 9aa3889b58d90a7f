/- Each function comes to its tree; no condition. -/
import Derived.Test.YtmlicpnoccdcdaaGreatSmTab0
namespace Go.Proofs.YtmlicpnoccdcdaaGreat
open Go Go.Sm Go.Sm.Q
set_option maxRecDepth 100000
theorem st_impl_setOk : symFn cx f_impl_setOk = some tr_impl_setOk := by kernel_rfl
theorem st_impl_SetValid : symFn cx f_impl_SetValid = some tr_impl_SetValid := by kernel_rfl
theorem st_impl_marks : symFn cx f_impl_marks = some tr_impl_marks := by kernel_rfl
theorem st_impl_over : symFn cx f_impl_over = some tr_impl_over := by kernel_rfl
theorem st_impl_closed : symFn cx f_impl_closed = some tr_impl_closed := by kernel_rfl
theorem st_impl_Closed : symFn cx f_impl_Closed = some tr_impl_Closed := by kernel_rfl
theorem st_spec_l2Has : symFn cx f_spec_l2Has = some tr_spec_l2Has := by kernel_rfl
theorem st_spec_Closed : symFn cx f_spec_Closed = some tr_spec_Closed := by kernel_rfl
theorem st_impl_SetWithout : symFn cx f_impl_SetWithout = some tr_impl_SetWithout := by kernel_rfl
theorem st_laws_FnClosedReach : symFn cx f_laws_FnClosedReach = some tr_laws_FnClosedReach := by kernel_rfl
end Go.Proofs.YtmlicpnoccdcdaaGreat
