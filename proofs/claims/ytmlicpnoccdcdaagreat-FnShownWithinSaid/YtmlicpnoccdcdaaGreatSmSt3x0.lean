/- Each function comes to its tree; no condition. -/
import Derived.Test.YtmlicpnoccdcdaaGreatSmTab0
namespace Go.Proofs.YtmlicpnoccdcdaaGreat
open Go Go.Sm Go.Sm.Q
set_option maxRecDepth 100000
theorem st_spec_SetValid : symFn cx f_spec_SetValid = some tr_spec_SetValid := by kernel_rfl
theorem st_spec_NextNumbers : symFn cx f_spec_NextNumbers = some tr_spec_NextNumbers := by kernel_rfl
theorem st_impl_setOk : symFn cx f_impl_setOk = some tr_impl_setOk := by kernel_rfl
theorem st_impl_SetValid : symFn cx f_impl_SetValid = some tr_impl_SetValid := by kernel_rfl
theorem st_impl_marks : symFn cx f_impl_marks = some tr_impl_marks := by kernel_rfl
theorem st_impl_over : symFn cx f_impl_over = some tr_impl_over := by kernel_rfl
theorem st_impl_closed : symFn cx f_impl_closed = some tr_impl_closed := by kernel_rfl
theorem st_impl_Closed : symFn cx f_impl_Closed = some tr_impl_Closed := by kernel_rfl
theorem st_spec_l2Has : symFn cx f_spec_l2Has = some tr_spec_l2Has := by kernel_rfl
theorem st_spec_Closed : symFn cx f_spec_Closed = some tr_spec_Closed := by kernel_rfl
theorem st_spec_l15Ask : symFn cx f_spec_l15Ask = some tr_spec_l15Ask := by kernel_rfl
theorem st_spec_l15Set : symFn cx f_spec_l15Set = some tr_spec_l15Set := by kernel_rfl
theorem st_spec_DrawShownWithin : symFn cx f_spec_DrawShownWithin = some tr_spec_DrawShownWithin := by kernel_rfl
theorem st_impl_goodIn : symFn cx f_impl_goodIn = some tr_impl_goodIn := by kernel_rfl
theorem st_impl_holdsWithin : symFn cx f_impl_holdsWithin = some tr_impl_holdsWithin := by kernel_rfl
theorem st_impl_ShownWithin : symFn cx f_impl_ShownWithin = some tr_impl_ShownWithin := by kernel_rfl
theorem st_spec_SetBoth : symFn cx f_spec_SetBoth = some tr_spec_SetBoth := by kernel_rfl
theorem st_spec_HoldsWithin : symFn cx f_spec_HoldsWithin = some tr_spec_HoldsWithin := by kernel_rfl
theorem st_spec_ShownWithin : symFn cx f_spec_ShownWithin = some tr_spec_ShownWithin := by kernel_rfl
theorem st_impl_HoldsWithin : symFn cx f_impl_HoldsWithin = some tr_impl_HoldsWithin := by kernel_rfl
theorem st_impl_StatesWhere : symFn cx f_impl_StatesWhere = some tr_impl_StatesWhere := by kernel_rfl
theorem st_impl_SetBoth : symFn cx f_impl_SetBoth = some tr_impl_SetBoth := by kernel_rfl
theorem st_impl_Proves : symFn cx f_impl_Proves = some tr_impl_Proves := by kernel_rfl
theorem st_laws_FnShownWithin : symFn cx f_laws_FnShownWithin = some tr_laws_FnShownWithin := by kernel_rfl
end Go.Proofs.YtmlicpnoccdcdaaGreat
