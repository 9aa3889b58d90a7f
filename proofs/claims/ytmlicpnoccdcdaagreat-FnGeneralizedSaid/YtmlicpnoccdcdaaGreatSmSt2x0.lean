/- Each function comes to its tree; no condition. -/
import Derived.Test.YtmlicpnoccdcdaaGreatSmTab0
namespace Go.Proofs.YtmlicpnoccdcdaaGreat
open Go Go.Sm Go.Sm.Q
set_option maxRecDepth 100000
theorem st_spec_l4State : symFn cx f_spec_l4State = some tr_spec_l4State := by kernel_rfl
theorem st_spec_l1Held : symFn cx f_spec_l1Held = some tr_spec_l1Held := by kernel_rfl
theorem st_spec_l1Truth : symFn cx f_spec_l1Truth = some tr_spec_l1Truth := by kernel_rfl
theorem st_spec_l1Do : symFn cx f_spec_l1Do = some tr_spec_l1Do := by kernel_rfl
theorem st_spec_l1Values : symFn cx f_spec_l1Values = some tr_spec_l1Values := by kernel_rfl
theorem st_spec_l2Last : symFn cx f_spec_l2Last = some tr_spec_l2Last := by kernel_rfl
theorem st_spec_l2In : symFn cx f_spec_l2In = some tr_spec_l2In := by kernel_rfl
theorem st_spec_l2Use : symFn cx f_spec_l2Use = some tr_spec_l2Use := by kernel_rfl
theorem st_spec_l2Same : symFn cx f_spec_l2Same = some tr_spec_l2Same := by kernel_rfl
theorem st_spec_l2Less : symFn cx f_spec_l2Less = some tr_spec_l2Less := by kernel_rfl
theorem st_spec_l2Put : symFn cx f_spec_l2Put = some tr_spec_l2Put := by kernel_rfl
theorem st_spec_l2Next : symFn cx f_spec_l2Next = some tr_spec_l2Next := by kernel_rfl
theorem st_spec_l4Number : symFn cx f_spec_l4Number = some tr_spec_l4Number := by kernel_rfl
theorem st_spec_l4Steps : symFn cx f_spec_l4Steps = some tr_spec_l4Steps := by kernel_rfl
theorem st_spec_l4Marks : symFn cx f_spec_l4Marks = some tr_spec_l4Marks := by kernel_rfl
theorem st_spec_l4List : symFn cx f_spec_l4List = some tr_spec_l4List := by kernel_rfl
theorem st_spec_l4Set : symFn cx f_spec_l4Set = some tr_spec_l4Set := by kernel_rfl
theorem st_spec_l4Mix : symFn cx f_spec_l4Mix = some tr_spec_l4Mix := by kernel_rfl
theorem st_laws_wcInts : symFn cx f_laws_wcInts = some tr_laws_wcInts := by kernel_rfl
theorem st_spec_SetWithout : symFn cx f_spec_SetWithout = some tr_spec_SetWithout := by kernel_rfl
theorem st_spec_l4Some : symFn cx f_spec_l4Some = some tr_spec_l4Some := by kernel_rfl
theorem st_spec_SetValid : symFn cx f_spec_SetValid = some tr_spec_SetValid := by kernel_rfl
theorem st_impl_setOk : symFn cx f_impl_setOk = some tr_impl_setOk := by kernel_rfl
theorem st_impl_SetValid : symFn cx f_impl_SetValid = some tr_impl_SetValid := by kernel_rfl
theorem st_impl_marks : symFn cx f_impl_marks = some tr_impl_marks := by kernel_rfl
theorem st_impl_over : symFn cx f_impl_over = some tr_impl_over := by kernel_rfl
theorem st_spec_l2Has : symFn cx f_spec_l2Has = some tr_spec_l2Has := by kernel_rfl
theorem st_impl_SetWithout : symFn cx f_impl_SetWithout = some tr_impl_SetWithout := by kernel_rfl
theorem st_spec_SetBoth : symFn cx f_spec_SetBoth = some tr_spec_SetBoth := by kernel_rfl
theorem st_impl_SetBoth : symFn cx f_impl_SetBoth = some tr_impl_SetBoth := by kernel_rfl
end Go.Proofs.YtmlicpnoccdcdaaGreat
