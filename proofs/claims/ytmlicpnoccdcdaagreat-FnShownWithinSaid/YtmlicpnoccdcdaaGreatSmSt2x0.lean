/- Each function comes to its tree; no condition. -/
import Derived.Test.YtmlicpnoccdcdaaGreatSmTab0
namespace Go.Proofs.YtmlicpnoccdcdaaGreat
open Go Go.Sm Go.Sm.Q
set_option maxRecDepth 100000
theorem st_spec_l1Do : symFn cx f_spec_l1Do = some tr_spec_l1Do := by kernel_rfl
theorem st_spec_l1Values : symFn cx f_spec_l1Values = some tr_spec_l1Values := by kernel_rfl
theorem st_spec_l2Last : symFn cx f_spec_l2Last = some tr_spec_l2Last := by kernel_rfl
theorem st_spec_l2In : symFn cx f_spec_l2In = some tr_spec_l2In := by kernel_rfl
theorem st_spec_l2Use : symFn cx f_spec_l2Use = some tr_spec_l2Use := by kernel_rfl
theorem st_spec_l2Same : symFn cx f_spec_l2Same = some tr_spec_l2Same := by kernel_rfl
theorem st_spec_l2Less : symFn cx f_spec_l2Less = some tr_spec_l2Less := by kernel_rfl
theorem st_spec_l2Put : symFn cx f_spec_l2Put = some tr_spec_l2Put := by kernel_rfl
theorem st_spec_l2Next : symFn cx f_spec_l2Next = some tr_spec_l2Next := by kernel_rfl
theorem st_spec_l4Number : symFn cx f_spec_l4Number = some tr_spec_l4Number := by kernel_rfl
theorem st_spec_l4Steps : symFn cx f_spec_l4Steps = some tr_spec_l4Steps := by kernel_rfl
theorem st_spec_l4Marks : symFn cx f_spec_l4Marks = some tr_spec_l4Marks := by kernel_rfl
theorem st_spec_l4Behind : symFn cx f_spec_l4Behind = some tr_spec_l4Behind := by kernel_rfl
theorem st_spec_l4List : symFn cx f_spec_l4List = some tr_spec_l4List := by kernel_rfl
theorem st_spec_l4Set : symFn cx f_spec_l4Set = some tr_spec_l4Set := by kernel_rfl
theorem st_spec_l4Mix : symFn cx f_spec_l4Mix = some tr_spec_l4Mix := by kernel_rfl
theorem st_spec_SetEither : symFn cx f_spec_SetEither = some tr_spec_SetEither := by kernel_rfl
theorem st_spec_l1Any : symFn cx f_spec_l1Any = some tr_spec_l1Any := by kernel_rfl
theorem st_impl_truthOf : symFn cx f_impl_truthOf = some tr_impl_truthOf := by kernel_rfl
theorem st_impl_where : symFn cx f_impl_where = some tr_impl_where := by kernel_rfl
theorem st_impl_always : symFn cx f_impl_always = some tr_impl_always := by kernel_rfl
theorem st_impl_Always : symFn cx f_impl_Always = some tr_impl_Always := by kernel_rfl
theorem st_spec_StatesWhere : symFn cx f_spec_StatesWhere = some tr_spec_StatesWhere := by kernel_rfl
theorem st_spec_SetWithout : symFn cx f_spec_SetWithout = some tr_spec_SetWithout := by kernel_rfl
theorem st_spec_l5First : symFn cx f_spec_l5First = some tr_spec_l5First := by kernel_rfl
theorem st_spec_l5Steps : symFn cx f_spec_l5Steps = some tr_spec_l5Steps := by kernel_rfl
theorem st_spec_StepsTo : symFn cx f_spec_StepsTo = some tr_spec_StepsTo := by kernel_rfl
theorem st_spec_l5Told : symFn cx f_spec_l5Told = some tr_spec_l5Told := by kernel_rfl
theorem st_spec_ReachOf : symFn cx f_spec_ReachOf = some tr_spec_ReachOf := by kernel_rfl
theorem st_spec_l4Some : symFn cx f_spec_l4Some = some tr_spec_l4Some := by kernel_rfl
end Go.Proofs.YtmlicpnoccdcdaaGreat
