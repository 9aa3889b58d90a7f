/- Each function comes to its tree; no condition. -/
import Derived.Test.YthapopegchnhlabGreatSmTab0
namespace Go.Proofs.YthapopegchnhlabGreat
open Go Go.Sm Go.Sm.Q
set_option maxRecDepth 100000
theorem st_spec_l1Values : symFn cx f_spec_l1Values = some tr_spec_l1Values := by kernel_rfl
theorem st_spec_l2Last : symFn cx f_spec_l2Last = some tr_spec_l2Last := by kernel_rfl
theorem st_spec_l2Use : symFn cx f_spec_l2Use = some tr_spec_l2Use := by kernel_rfl
theorem st_spec_l1Needed : symFn cx f_spec_l1Needed = some tr_spec_l1Needed := by kernel_rfl
theorem st_spec_UsedBy : symFn cx f_spec_UsedBy = some tr_spec_UsedBy := by kernel_rfl
theorem st_spec_l2Has : symFn cx f_spec_l2Has = some tr_spec_l2Has := by kernel_rfl
theorem st_spec_TouchedBy : symFn cx f_spec_TouchedBy = some tr_spec_TouchedBy := by kernel_rfl
theorem st_spec_l26Meet : symFn cx f_spec_l26Meet = some tr_spec_l26Meet := by kernel_rfl
theorem st_spec_l26Apart : symFn cx f_spec_l26Apart = some tr_spec_l26Apart := by kernel_rfl
theorem st_spec_l26Wakers : symFn cx f_spec_l26Wakers = some tr_spec_l26Wakers := by kernel_rfl
theorem st_spec_l4List : symFn cx f_spec_l4List = some tr_spec_l4List := by kernel_rfl
theorem st_spec_l26From : symFn cx f_spec_l26From = some tr_spec_l26From := by kernel_rfl
theorem st_impl_stubborn_in : symFn cx f_impl_stubborn_in = some tr_impl_stubborn_in := by kernel_rfl
theorem st_spec_l26Usable : symFn cx f_spec_l26Usable = some tr_spec_l26Usable := by kernel_rfl
theorem st_spec_l26Best : symFn cx f_spec_l26Best = some tr_spec_l26Best := by kernel_rfl
theorem st_laws_szVarS : symFn cx f_laws_szVarS = some tr_laws_szVarS := by kernel_rfl
theorem st_laws_szTermS : symFn cx f_laws_szTermS = some tr_laws_szTermS := by kernel_rfl
theorem st_laws_szIntS : symFn cx f_laws_szIntS = some tr_laws_szIntS := by kernel_rfl
theorem st_laws_szTermSS : symFn cx f_laws_szTermSS = some tr_laws_szTermSS := by kernel_rfl
theorem st_laws_szRule : symFn cx f_laws_szRule = some tr_laws_szRule := by kernel_rfl
theorem st_laws_szRuleS : symFn cx f_laws_szRuleS = some tr_laws_szRuleS := by kernel_rfl
theorem st_laws_szSystem : symFn cx f_laws_szSystem = some tr_laws_szSystem := by kernel_rfl
theorem st_laws_toVar : symFn cx f_laws_toVar = some tr_laws_toVar := by kernel_rfl
theorem st_laws_toVarS : symFn cx f_laws_toVarS = some tr_laws_toVarS := by kernel_rfl
theorem st_laws_toTerm : symFn cx f_laws_toTerm = some tr_laws_toTerm := by kernel_rfl
theorem st_laws_toTermS : symFn cx f_laws_toTermS = some tr_laws_toTermS := by kernel_rfl
theorem st_laws_toIntS : symFn cx f_laws_toIntS = some tr_laws_toIntS := by kernel_rfl
theorem st_laws_toTermSS : symFn cx f_laws_toTermSS = some tr_laws_toTermSS := by kernel_rfl
theorem st_laws_toRule : symFn cx f_laws_toRule = some tr_laws_toRule := by kernel_rfl
theorem st_laws_toRuleS : symFn cx f_laws_toRuleS = some tr_laws_toRuleS := by kernel_rfl
end Go.Proofs.YthapopegchnhlabGreat
