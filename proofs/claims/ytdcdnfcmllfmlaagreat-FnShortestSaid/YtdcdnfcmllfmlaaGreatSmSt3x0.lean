/- Each function comes to its tree; no condition. -/
import Derived.Test.YtdcdnfcmllfmlaaGreatSmTab0
namespace Go.Proofs.YtdcdnfcmllfmlaaGreat
open Go Go.Sm Go.Sm.Q
set_option maxRecDepth 100000
theorem st_spec_l5Nearest : symFn cx f_spec_l5Nearest = some tr_spec_l5Nearest := by kernel_rfl
theorem st_spec_l2Has : symFn cx f_spec_l2Has = some tr_spec_l2Has := by kernel_rfl
theorem st_spec_l5Back : symFn cx f_spec_l5Back = some tr_spec_l5Back := by kernel_rfl
theorem st_spec_l3Between : symFn cx f_spec_l3Between = some tr_spec_l3Between := by kernel_rfl
theorem st_spec_TraceOf : symFn cx f_spec_TraceOf = some tr_spec_TraceOf := by kernel_rfl
theorem st_spec_WayTo : symFn cx f_spec_WayTo = some tr_spec_WayTo := by kernel_rfl
theorem st_impl_StepsTo : symFn cx f_impl_StepsTo = some tr_impl_StepsTo := by kernel_rfl
theorem st_impl_NumberOf : symFn cx f_impl_NumberOf = some tr_impl_NumberOf := by kernel_rfl
theorem st_laws_wcInts : symFn cx f_laws_wcInts = some tr_laws_wcInts := by kernel_rfl
theorem st_impl_StatesWhere : symFn cx f_impl_StatesWhere = some tr_impl_StatesWhere := by kernel_rfl
theorem st_impl_TraceValid : symFn cx f_impl_TraceValid = some tr_impl_TraceValid := by kernel_rfl
theorem st_laws_FnShortest : symFn cx f_laws_FnShortest = some tr_laws_FnShortest := by kernel_rfl
end Go.Proofs.YtdcdnfcmllfmlaaGreat
