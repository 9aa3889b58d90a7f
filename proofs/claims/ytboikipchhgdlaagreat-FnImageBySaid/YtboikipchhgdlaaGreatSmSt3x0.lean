/- Each function comes to its tree; no condition. -/
import Derived.Test.YtboikipchhgdlaaGreatSmTab0
namespace Go.Proofs.YtboikipchhgdlaaGreat
open Go Go.Sm Go.Sm.Q
set_option maxRecDepth 100000
theorem st_spec_l2Any : symFn cx f_spec_l2Any = some tr_spec_l2Any := by kernel_rfl
theorem st_spec_l10System : symFn cx f_spec_l10System = some tr_spec_l10System := by kernel_rfl
theorem st_spec_l4Some : symFn cx f_spec_l4Some = some tr_spec_l4Some := by kernel_rfl
theorem st_spec_DrawSetDiagram : symFn cx f_spec_DrawSetDiagram = some tr_spec_DrawSetDiagram := by kernel_rfl
theorem st_spec_DrawImageBy : symFn cx f_spec_DrawImageBy = some tr_spec_DrawImageBy := by kernel_rfl
theorem st_impl_setOk : symFn cx f_impl_setOk = some tr_impl_setOk := by kernel_rfl
theorem st_impl_SetValid : symFn cx f_impl_SetValid = some tr_impl_SetValid := by kernel_rfl
theorem st_impl_listOf : symFn cx f_impl_listOf = some tr_impl_listOf := by kernel_rfl
theorem st_impl_over : symFn cx f_impl_over = some tr_impl_over := by kernel_rfl
theorem st_impl_NextNumbers : symFn cx f_impl_NextNumbers = some tr_impl_NextNumbers := by kernel_rfl
theorem st_impl_ImageBy : symFn cx f_impl_ImageBy = some tr_impl_ImageBy := by kernel_rfl
theorem st_impl_pasts : symFn cx f_impl_pasts = some tr_impl_pasts := by kernel_rfl
theorem st_impl_PastNumbers : symFn cx f_impl_PastNumbers = some tr_impl_PastNumbers := by kernel_rfl
theorem st_impl_PastBy : symFn cx f_impl_PastBy = some tr_impl_PastBy := by kernel_rfl
theorem st_spec_SetValid : symFn cx f_spec_SetValid = some tr_spec_SetValid := by kernel_rfl
theorem st_spec_l4Marks : symFn cx f_spec_l4Marks = some tr_spec_l4Marks := by kernel_rfl
theorem st_spec_l4Behind : symFn cx f_spec_l4Behind = some tr_spec_l4Behind := by kernel_rfl
theorem st_spec_l4List : symFn cx f_spec_l4List = some tr_spec_l4List := by kernel_rfl
theorem st_spec_NextNumbers : symFn cx f_spec_NextNumbers = some tr_spec_NextNumbers := by kernel_rfl
theorem st_spec_ImageBy : symFn cx f_spec_ImageBy = some tr_spec_ImageBy := by kernel_rfl
theorem st_laws_wcInts : symFn cx f_laws_wcInts = some tr_laws_wcInts := by kernel_rfl
theorem st_spec_l4Ahead : symFn cx f_spec_l4Ahead = some tr_spec_l4Ahead := by kernel_rfl
theorem st_spec_PastNumbers : symFn cx f_spec_PastNumbers = some tr_spec_PastNumbers := by kernel_rfl
theorem st_spec_PastBy : symFn cx f_spec_PastBy = some tr_spec_PastBy := by kernel_rfl
theorem st_laws_FnImageBy : symFn cx f_laws_FnImageBy = some tr_laws_FnImageBy := by kernel_rfl
end Go.Proofs.YtboikipchhgdlaaGreat
