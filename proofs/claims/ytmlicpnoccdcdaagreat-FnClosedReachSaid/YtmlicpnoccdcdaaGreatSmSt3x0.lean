/- Each function comes to its tree; no condition. -/
import Derived.Test.YtmlicpnoccdcdaaGreatSmTab0
namespace Go.Proofs.YtmlicpnoccdcdaaGreat
open Go Go.Sm Go.Sm.Q
set_option maxRecDepth 100000
theorem st_spec_l4List : symFn cx f_spec_l4List = some tr_spec_l4List := by kernel_rfl
theorem st_spec_l4Set : symFn cx f_spec_l4Set = some tr_spec_l4Set := by kernel_rfl
theorem st_spec_l4Mix : symFn cx f_spec_l4Mix = some tr_spec_l4Mix := by kernel_rfl
theorem st_spec_SetEither : symFn cx f_spec_SetEither = some tr_spec_SetEither := by kernel_rfl
theorem st_spec_ReachBy : symFn cx f_spec_ReachBy = some tr_spec_ReachBy := by kernel_rfl
theorem st_laws_wcInts : symFn cx f_laws_wcInts = some tr_laws_wcInts := by kernel_rfl
theorem st_impl_StepsTo : symFn cx f_impl_StepsTo = some tr_impl_StepsTo := by kernel_rfl
theorem st_impl_ReachOf : symFn cx f_impl_ReachOf = some tr_impl_ReachOf := by kernel_rfl
theorem st_laws_FnReachBy : symFn cx f_laws_FnReachBy = some tr_laws_FnReachBy := by kernel_rfl
theorem st_spec_l1Any : symFn cx f_spec_l1Any = some tr_spec_l1Any := by kernel_rfl
theorem st_spec_DrawAlwaysBy : symFn cx f_spec_DrawAlwaysBy = some tr_spec_DrawAlwaysBy := by kernel_rfl
theorem st_impl_truthOf : symFn cx f_impl_truthOf = some tr_impl_truthOf := by kernel_rfl
theorem st_impl_where : symFn cx f_impl_where = some tr_impl_where := by kernel_rfl
theorem st_impl_always : symFn cx f_impl_always = some tr_impl_always := by kernel_rfl
theorem st_impl_Always : symFn cx f_impl_Always = some tr_impl_Always := by kernel_rfl
theorem st_impl_AlwaysBy : symFn cx f_impl_AlwaysBy = some tr_impl_AlwaysBy := by kernel_rfl
theorem st_spec_StatesWhere : symFn cx f_spec_StatesWhere = some tr_spec_StatesWhere := by kernel_rfl
theorem st_spec_SetWithout : symFn cx f_spec_SetWithout = some tr_spec_SetWithout := by kernel_rfl
theorem st_spec_AlwaysBy : symFn cx f_spec_AlwaysBy = some tr_spec_AlwaysBy := by kernel_rfl
theorem st_impl_StepsCount : symFn cx f_impl_StepsCount = some tr_impl_StepsCount := by kernel_rfl
theorem st_laws_FnAlwaysBy : symFn cx f_laws_FnAlwaysBy = some tr_laws_FnAlwaysBy := by kernel_rfl
theorem st_spec_l5First : symFn cx f_spec_l5First = some tr_spec_l5First := by kernel_rfl
theorem st_spec_l5Steps : symFn cx f_spec_l5Steps = some tr_spec_l5Steps := by kernel_rfl
theorem st_spec_StepsTo : symFn cx f_spec_StepsTo = some tr_spec_StepsTo := by kernel_rfl
theorem st_spec_l5Told : symFn cx f_spec_l5Told = some tr_spec_l5Told := by kernel_rfl
theorem st_spec_ReachOf : symFn cx f_spec_ReachOf = some tr_spec_ReachOf := by kernel_rfl
theorem st_spec_l4Some : symFn cx f_spec_l4Some = some tr_spec_l4Some := by kernel_rfl
theorem st_spec_SetValid : symFn cx f_spec_SetValid = some tr_spec_SetValid := by kernel_rfl
theorem st_spec_NextNumbers : symFn cx f_spec_NextNumbers = some tr_spec_NextNumbers := by kernel_rfl
theorem st_spec_DrawClosed : symFn cx f_spec_DrawClosed = some tr_spec_DrawClosed := by kernel_rfl
end Go.Proofs.YtmlicpnoccdcdaaGreat
