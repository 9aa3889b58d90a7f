/- Each function comes to its tree; no condition. -/
import Derived.Test.YthapopegchnhlaaGreatSmTab0
namespace Go.Proofs.YthapopegchnhlaaGreat
open Go Go.Sm Go.Sm.Q
set_option maxRecDepth 100000
theorem st_impl_size : symFn cx f_impl_size = some tr_impl_size := by kernel_rfl
theorem st_impl_parts : symFn cx f_impl_parts = some tr_impl_parts := by kernel_rfl
theorem st_impl_kindsOf : symFn cx f_impl_kindsOf = some tr_impl_kindsOf := by kernel_rfl
theorem st_impl_kindOf : symFn cx f_impl_kindOf = some tr_impl_kindOf := by kernel_rfl
theorem st_impl_ruleOk : symFn cx f_impl_ruleOk = some tr_impl_ruleOk := by kernel_rfl
theorem st_impl_SystemValid : symFn cx f_impl_SystemValid = some tr_impl_SystemValid := by kernel_rfl
theorem st_impl_factsOk : symFn cx f_impl_factsOk = some tr_impl_factsOk := by kernel_rfl
theorem st_impl_lassoOk : symFn cx f_impl_lassoOk = some tr_impl_lassoOk := by kernel_rfl
theorem st_slices_Concat_SSint_Sint : symFn cx f_slices_Concat_SSint_Sint = some tr_slices_Concat_SSint_Sint := by kernel_rfl
theorem st_impl_inRange : symFn cx f_impl_inRange = some tr_impl_inRange := by kernel_rfl
theorem st_impl_clone_int : symFn cx f_impl_clone_int = some tr_impl_clone_int := by kernel_rfl
theorem st_impl_first : symFn cx f_impl_first = some tr_impl_first := by kernel_rfl
theorem st_slices_Equal_Sint_int : symFn cx f_slices_Equal_Sint_int = some tr_slices_Equal_Sint_int := by kernel_rfl
theorem st_impl_held : symFn cx f_impl_held = some tr_impl_held := by kernel_rfl
theorem st_impl_bit : symFn cx f_impl_bit = some tr_impl_bit := by kernel_rfl
theorem st_impl_do : symFn cx f_impl_do = some tr_impl_do := by kernel_rfl
theorem st_impl_eval : symFn cx f_impl_eval = some tr_impl_eval := by kernel_rfl
theorem st_impl_use : symFn cx f_impl_use = some tr_impl_use := by kernel_rfl
theorem st_impl_usableIn : symFn cx f_impl_usableIn = some tr_impl_usableIn := by kernel_rfl
theorem st_impl_ruleBetween : symFn cx f_impl_ruleBetween = some tr_impl_ruleBetween := by kernel_rfl
theorem st_impl_follows : symFn cx f_impl_follows = some tr_impl_follows := by kernel_rfl
theorem st_impl_LassoValid : symFn cx f_impl_LassoValid = some tr_impl_LassoValid := by kernel_rfl
theorem st_impl_TimesValid : symFn cx f_impl_TimesValid = some tr_impl_TimesValid := by kernel_rfl
theorem st_impl_letters : symFn cx f_impl_letters = some tr_impl_letters := by kernel_rfl
theorem st_impl_word : symFn cx f_impl_word = some tr_impl_word := by kernel_rfl
theorem st_impl_timesOn : symFn cx f_impl_timesOn = some tr_impl_timesOn := by kernel_rfl
theorem st_impl_HoldsOnRun : symFn cx f_impl_HoldsOnRun = some tr_impl_HoldsOnRun := by kernel_rfl
theorem st_laws_eqVar : symFn cx f_laws_eqVar = some tr_laws_eqVar := by kernel_rfl
theorem st_laws_eqVarS : symFn cx f_laws_eqVarS = some tr_laws_eqVarS := by kernel_rfl
theorem st_laws_eqTerm : symFn cx f_laws_eqTerm = some tr_laws_eqTerm := by kernel_rfl
end Go.Proofs.YthapopegchnhlaaGreat
