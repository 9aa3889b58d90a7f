/- Each function comes to its tree; no condition. -/
import Derived.Test.YthapopegchnhlaaGreatSmTab0
namespace Go.Proofs.YthapopegchnhlaaGreat
open Go Go.Sm Go.Sm.Q
set_option maxRecDepth 100000
theorem st_spec_l2Use : symFn cx f_spec_l2Use = some tr_spec_l2Use := by kernel_rfl
theorem st_impl_in : symFn cx f_impl_in = some tr_impl_in := by kernel_rfl
theorem st_impl_varOk : symFn cx f_impl_varOk = some tr_impl_varOk := by kernel_rfl
theorem st_impl_size : symFn cx f_impl_size = some tr_impl_size := by kernel_rfl
theorem st_impl_parts : symFn cx f_impl_parts = some tr_impl_parts := by kernel_rfl
theorem st_impl_kindsOf : symFn cx f_impl_kindsOf = some tr_impl_kindsOf := by kernel_rfl
theorem st_impl_kindOf : symFn cx f_impl_kindOf = some tr_impl_kindOf := by kernel_rfl
theorem st_impl_ruleOk : symFn cx f_impl_ruleOk = some tr_impl_ruleOk := by kernel_rfl
theorem st_impl_SystemValid : symFn cx f_impl_SystemValid = some tr_impl_SystemValid := by kernel_rfl
theorem st_impl_inRange : symFn cx f_impl_inRange = some tr_impl_inRange := by kernel_rfl
theorem st_impl_clone_int : symFn cx f_impl_clone_int = some tr_impl_clone_int := by kernel_rfl
theorem st_impl_held : symFn cx f_impl_held = some tr_impl_held := by kernel_rfl
theorem st_impl_bit : symFn cx f_impl_bit = some tr_impl_bit := by kernel_rfl
theorem st_impl_do : symFn cx f_impl_do = some tr_impl_do := by kernel_rfl
theorem st_impl_eval : symFn cx f_impl_eval = some tr_impl_eval := by kernel_rfl
theorem st_impl_use : symFn cx f_impl_use = some tr_impl_use := by kernel_rfl
theorem st_impl_usableIn : symFn cx f_impl_usableIn = some tr_impl_usableIn := by kernel_rfl
theorem st_laws_eqVar : symFn cx f_laws_eqVar = some tr_laws_eqVar := by kernel_rfl
theorem st_laws_eqVarS : symFn cx f_laws_eqVarS = some tr_laws_eqVarS := by kernel_rfl
theorem st_laws_eqTerm : symFn cx f_laws_eqTerm = some tr_laws_eqTerm := by kernel_rfl
theorem st_laws_eqTermS : symFn cx f_laws_eqTermS = some tr_laws_eqTermS := by kernel_rfl
theorem st_laws_eqIntS : symFn cx f_laws_eqIntS = some tr_laws_eqIntS := by kernel_rfl
theorem st_laws_eqTermSS : symFn cx f_laws_eqTermSS = some tr_laws_eqTermSS := by kernel_rfl
theorem st_laws_eqRule : symFn cx f_laws_eqRule = some tr_laws_eqRule := by kernel_rfl
theorem st_laws_eqRuleS : symFn cx f_laws_eqRuleS = some tr_laws_eqRuleS := by kernel_rfl
theorem st_laws_eqSystem : symFn cx f_laws_eqSystem = some tr_laws_eqSystem := by kernel_rfl
theorem st_spec_TermsValid : symFn cx f_spec_TermsValid = some tr_spec_TermsValid := by kernel_rfl
theorem st_slices_Index_Sint_int : symFn cx f_slices_Index_Sint_int = some tr_slices_Index_Sint_int := by kernel_rfl
theorem st_slices_Contains_Sint_int : symFn cx f_slices_Contains_Sint_int = some tr_slices_Contains_Sint_int := by kernel_rfl
theorem st_impl_meets : symFn cx f_impl_meets = some tr_impl_meets := by kernel_rfl
end Go.Proofs.YthapopegchnhlaaGreat
