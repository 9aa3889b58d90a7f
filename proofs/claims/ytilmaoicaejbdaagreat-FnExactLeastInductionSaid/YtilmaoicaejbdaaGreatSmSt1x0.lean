/- Each function comes to its tree; no condition. -/
import Derived.Test.YtilmaoicaejbdaaGreatSmTab0
namespace Go.Proofs.YtilmaoicaejbdaaGreat
open Go Go.Sm Go.Sm.Q
set_option maxRecDepth 100000
theorem st_spec_l1Truth : symFn cx f_spec_l1Truth = some tr_spec_l1Truth := by kernel_rfl
theorem st_spec_l1Do : symFn cx f_spec_l1Do = some tr_spec_l1Do := by kernel_rfl
theorem st_spec_l1Values : symFn cx f_spec_l1Values = some tr_spec_l1Values := by kernel_rfl
theorem st_spec_l2Last : symFn cx f_spec_l2Last = some tr_spec_l2Last := by kernel_rfl
theorem st_spec_l2In : symFn cx f_spec_l2In = some tr_spec_l2In := by kernel_rfl
theorem st_spec_l2Use : symFn cx f_spec_l2Use = some tr_spec_l2Use := by kernel_rfl
theorem st_spec_l2Same : symFn cx f_spec_l2Same = some tr_spec_l2Same := by kernel_rfl
theorem st_spec_l2Less : symFn cx f_spec_l2Less = some tr_spec_l2Less := by kernel_rfl
theorem st_spec_l2Put : symFn cx f_spec_l2Put = some tr_spec_l2Put := by kernel_rfl
theorem st_spec_l2Next : symFn cx f_spec_l2Next = some tr_spec_l2Next := by kernel_rfl
theorem st_spec_l4Number : symFn cx f_spec_l4Number = some tr_spec_l4Number := by kernel_rfl
theorem st_spec_l4Steps : symFn cx f_spec_l4Steps = some tr_spec_l4Steps := by kernel_rfl
theorem st_spec_StatesWhere : symFn cx f_spec_StatesWhere = some tr_spec_StatesWhere := by kernel_rfl
theorem st_spec_l4Marks : symFn cx f_spec_l4Marks = some tr_spec_l4Marks := by kernel_rfl
theorem st_spec_l15Good : symFn cx f_spec_l15Good = some tr_spec_l15Good := by kernel_rfl
theorem st_spec_l2Has : symFn cx f_spec_l2Has = some tr_spec_l2Has := by kernel_rfl
theorem st_spec_l15Go : symFn cx f_spec_l15Go = some tr_spec_l15Go := by kernel_rfl
theorem st_spec_LooplessTo : symFn cx f_spec_LooplessTo = some tr_spec_LooplessTo := by kernel_rfl
theorem st_impl_in : symFn cx f_impl_in = some tr_impl_in := by kernel_rfl
theorem st_impl_varOk : symFn cx f_impl_varOk = some tr_impl_varOk := by kernel_rfl
theorem st_impl_size : symFn cx f_impl_size = some tr_impl_size := by kernel_rfl
theorem st_impl_parts : symFn cx f_impl_parts = some tr_impl_parts := by kernel_rfl
theorem st_impl_kindsOf : symFn cx f_impl_kindsOf = some tr_impl_kindsOf := by kernel_rfl
theorem st_impl_kindOf : symFn cx f_impl_kindOf = some tr_impl_kindOf := by kernel_rfl
theorem st_impl_ruleOk : symFn cx f_impl_ruleOk = some tr_impl_ruleOk := by kernel_rfl
theorem st_impl_SystemValid : symFn cx f_impl_SystemValid = some tr_impl_SystemValid := by kernel_rfl
theorem st_impl_truthOf : symFn cx f_impl_truthOf = some tr_impl_truthOf := by kernel_rfl
theorem st_impl_stateAt : symFn cx f_impl_stateAt = some tr_impl_stateAt := by kernel_rfl
theorem st_impl_held : symFn cx f_impl_held = some tr_impl_held := by kernel_rfl
theorem st_impl_bit : symFn cx f_impl_bit = some tr_impl_bit := by kernel_rfl
end Go.Proofs.YtilmaoicaejbdaaGreat
