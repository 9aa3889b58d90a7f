/- Each function comes to its tree; no condition. -/
import Derived.Test.YtplibobhcjgcmaaGreatSmTab0
namespace Go.Proofs.YtplibobhcjgcmaaGreat
open Go Go.Sm Go.Sm.Q
set_option maxRecDepth 100000
theorem st_impl_steps : symFn cx f_impl_steps = some tr_impl_steps := by kernel_rfl
theorem st_impl_listOf : symFn cx f_impl_listOf = some tr_impl_listOf := by kernel_rfl
theorem st_spec_l5First : symFn cx f_spec_l5First = some tr_spec_l5First := by kernel_rfl
theorem st_spec_StatesWhere : symFn cx f_spec_StatesWhere = some tr_spec_StatesWhere := by kernel_rfl
theorem st_spec_l5Nearest : symFn cx f_spec_l5Nearest = some tr_spec_l5Nearest := by kernel_rfl
theorem st_spec_l5Back : symFn cx f_spec_l5Back = some tr_spec_l5Back := by kernel_rfl
theorem st_spec_l3Between : symFn cx f_spec_l3Between = some tr_spec_l3Between := by kernel_rfl
theorem st_spec_TraceOf : symFn cx f_spec_TraceOf = some tr_spec_TraceOf := by kernel_rfl
theorem st_spec_WayTo : symFn cx f_spec_WayTo = some tr_spec_WayTo := by kernel_rfl
theorem st_impl_truthOf : symFn cx f_impl_truthOf = some tr_impl_truthOf := by kernel_rfl
theorem st_impl_where : symFn cx f_impl_where = some tr_impl_where := by kernel_rfl
theorem st_slices_Equal_Sint_int : symFn cx f_slices_Equal_Sint_int = some tr_slices_Equal_Sint_int := by kernel_rfl
theorem st_impl_lists : symFn cx f_impl_lists = some tr_impl_lists := by kernel_rfl
theorem st_impl_InRange : symFn cx f_impl_InRange = some tr_impl_InRange := by kernel_rfl
theorem st_impl_ruleBetween : symFn cx f_impl_ruleBetween = some tr_impl_ruleBetween := by kernel_rfl
theorem st_impl_RuleBetween : symFn cx f_impl_RuleBetween = some tr_impl_RuleBetween := by kernel_rfl
theorem st_impl_TraceOf : symFn cx f_impl_TraceOf = some tr_impl_TraceOf := by kernel_rfl
theorem st_impl_WayTo : symFn cx f_impl_WayTo = some tr_impl_WayTo := by kernel_rfl
theorem st_laws_eqIntSS : symFn cx f_laws_eqIntSS = some tr_laws_eqIntSS := by kernel_rfl
theorem st_laws_eqTrace : symFn cx f_laws_eqTrace = some tr_laws_eqTrace := by kernel_rfl
theorem st_laws_markIntSS : symFn cx f_laws_markIntSS = some tr_laws_markIntSS := by kernel_rfl
theorem st_laws_markTrace : symFn cx f_laws_markTrace = some tr_laws_markTrace := by kernel_rfl
theorem st_laws_heldIntSS : symFn cx f_laws_heldIntSS = some tr_laws_heldIntSS := by kernel_rfl
theorem st_laws_heldTrace : symFn cx f_laws_heldTrace = some tr_laws_heldTrace := by kernel_rfl
theorem st_laws_FnExactWayTo : symFn cx f_laws_FnExactWayTo = some tr_laws_FnExactWayTo := by kernel_rfl
theorem st_spec_l20Facts : symFn cx f_spec_l20Facts = some tr_spec_l20Facts := by kernel_rfl
theorem st_spec_l22Onward : symFn cx f_spec_l22Onward = some tr_spec_l22Onward := by kernel_rfl
theorem st_spec_l20Of : symFn cx f_spec_l20Of = some tr_spec_l20Of := by kernel_rfl
theorem st_spec_GraphOf : symFn cx f_spec_GraphOf = some tr_spec_GraphOf := by kernel_rfl
theorem st_impl_factsOk : symFn cx f_impl_factsOk = some tr_impl_factsOk := by kernel_rfl
end Go.Proofs.YtplibobhcjgcmaaGreat
