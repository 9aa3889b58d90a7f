/- Each function comes to its tree; no condition. -/
import Derived.Test.YthapopegchnhlaaGreatSmTab0
namespace Go.Proofs.YthapopegchnhlaaGreat
open Go Go.Sm Go.Sm.Q
set_option maxRecDepth 100000
theorem st_impl_wakersOf : symFn cx f_impl_wakersOf = some tr_impl_wakersOf := by kernel_rfl
theorem st_spec_l4List : symFn cx f_spec_l4List = some tr_spec_l4List := by kernel_rfl
theorem st_impl_listOf : symFn cx f_impl_listOf = some tr_impl_listOf := by kernel_rfl
theorem st_laws_markVarS : symFn cx f_laws_markVarS = some tr_laws_markVarS := by kernel_rfl
theorem st_laws_markTermS : symFn cx f_laws_markTermS = some tr_laws_markTermS := by kernel_rfl
theorem st_laws_markIntS : symFn cx f_laws_markIntS = some tr_laws_markIntS := by kernel_rfl
theorem st_laws_markTermSS : symFn cx f_laws_markTermSS = some tr_laws_markTermSS := by kernel_rfl
theorem st_laws_markRuleS : symFn cx f_laws_markRuleS = some tr_laws_markRuleS := by kernel_rfl
theorem st_laws_markSystem : symFn cx f_laws_markSystem = some tr_laws_markSystem := by kernel_rfl
theorem st_laws_heldIntS : symFn cx f_laws_heldIntS = some tr_laws_heldIntS := by kernel_rfl
theorem st_spec_InRange : symFn cx f_spec_InRange = some tr_spec_InRange := by kernel_rfl
theorem st_spec_l26Wakers : symFn cx f_spec_l26Wakers = some tr_spec_l26Wakers := by kernel_rfl
theorem st_spec_l26From : symFn cx f_spec_l26From = some tr_spec_l26From := by kernel_rfl
theorem st_spec_StubbornFrom : symFn cx f_spec_StubbornFrom = some tr_spec_StubbornFrom := by kernel_rfl
theorem st_impl_stubbornOf : symFn cx f_impl_stubbornOf = some tr_impl_stubbornOf := by kernel_rfl
theorem st_impl_marks : symFn cx f_impl_marks = some tr_impl_marks := by kernel_rfl
theorem st_impl_stubborn_from : symFn cx f_impl_stubborn_from = some tr_impl_stubborn_from := by kernel_rfl
theorem st_impl_StubbornFrom : symFn cx f_impl_StubbornFrom = some tr_impl_StubbornFrom := by kernel_rfl
theorem st_laws_FnExactStubbornFrom : symFn cx f_laws_FnExactStubbornFrom = some tr_laws_FnExactStubbornFrom := by kernel_rfl
theorem st_spec_l26Usable : symFn cx f_spec_l26Usable = some tr_spec_l26Usable := by kernel_rfl
theorem st_spec_l26Best : symFn cx f_spec_l26Best = some tr_spec_l26Best := by kernel_rfl
theorem st_spec_StubbornIn : symFn cx f_spec_StubbornIn = some tr_spec_StubbornIn := by kernel_rfl
theorem st_impl_stubborn_in : symFn cx f_impl_stubborn_in = some tr_impl_stubborn_in := by kernel_rfl
theorem st_impl_StubbornIn : symFn cx f_impl_StubbornIn = some tr_impl_StubbornIn := by kernel_rfl
theorem st_laws_FnExactStubbornIn : symFn cx f_laws_FnExactStubbornIn = some tr_laws_FnExactStubbornIn := by kernel_rfl
end Go.Proofs.YthapopegchnhlaaGreat
