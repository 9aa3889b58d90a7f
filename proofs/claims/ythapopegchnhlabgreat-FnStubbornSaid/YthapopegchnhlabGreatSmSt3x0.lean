/- Each function comes to its tree; no condition. -/
import Derived.Test.YthapopegchnhlabGreatSmTab0
namespace Go.Proofs.YthapopegchnhlabGreat
open Go Go.Sm Go.Sm.Q
set_option maxRecDepth 100000
theorem st_spec_TouchedBy : symFn cx f_spec_TouchedBy = some tr_spec_TouchedBy := by kernel_rfl
theorem st_spec_l26Meet : symFn cx f_spec_l26Meet = some tr_spec_l26Meet := by kernel_rfl
theorem st_spec_l26Apart : symFn cx f_spec_l26Apart = some tr_spec_l26Apart := by kernel_rfl
theorem st_spec_l26Wakers : symFn cx f_spec_l26Wakers = some tr_spec_l26Wakers := by kernel_rfl
theorem st_spec_l4List : symFn cx f_spec_l4List = some tr_spec_l4List := by kernel_rfl
theorem st_spec_l26From : symFn cx f_spec_l26From = some tr_spec_l26From := by kernel_rfl
theorem st_spec_StubbornFrom : symFn cx f_spec_StubbornFrom = some tr_spec_StubbornFrom := by kernel_rfl
theorem st_laws_wcInts : symFn cx f_laws_wcInts = some tr_laws_wcInts := by kernel_rfl
theorem st_impl_Use : symFn cx f_impl_Use = some tr_impl_Use := by kernel_rfl
theorem st_impl_RulesApart : symFn cx f_impl_RulesApart = some tr_impl_RulesApart := by kernel_rfl
theorem st_laws_wcHas : symFn cx f_laws_wcHas = some tr_laws_wcHas := by kernel_rfl
theorem st_impl_WakersOf : symFn cx f_impl_WakersOf = some tr_impl_WakersOf := by kernel_rfl
theorem st_impl_stubborn_in : symFn cx f_impl_stubborn_in = some tr_impl_stubborn_in := by kernel_rfl
theorem st_impl_StubbornIn : symFn cx f_impl_StubbornIn = some tr_impl_StubbornIn := by kernel_rfl
theorem st_spec_l26Usable : symFn cx f_spec_l26Usable = some tr_spec_l26Usable := by kernel_rfl
theorem st_spec_l26Best : symFn cx f_spec_l26Best = some tr_spec_l26Best := by kernel_rfl
theorem st_spec_StubbornIn : symFn cx f_spec_StubbornIn = some tr_spec_StubbornIn := by kernel_rfl
theorem st_impl_UsableIn : symFn cx f_impl_UsableIn = some tr_impl_UsableIn := by kernel_rfl
theorem st_laws_FnStubborn : symFn cx f_laws_FnStubborn = some tr_laws_FnStubborn := by kernel_rfl
end Go.Proofs.YthapopegchnhlabGreat
