/- Each function comes to its tree; no condition. -/
import Derived.Test.YtlfinllnfggiiaaGreatSmTab0
namespace Go.Proofs.YtlfinllnfggiiaaGreat
open Go Go.Sm Go.Sm.Q
set_option maxRecDepth 100000
theorem st_impl_rulesApart : symFn cx f_impl_rulesApart = some tr_impl_rulesApart := by kernel_rfl
theorem st_impl_RulesApart : symFn cx f_impl_RulesApart = some tr_impl_RulesApart := by kernel_rfl
theorem st_spec_l2Var : symFn cx f_spec_l2Var = some tr_spec_l2Var := by kernel_rfl
theorem st_spec_l2Is : symFn cx f_spec_l2Is = some tr_spec_l2Is := by kernel_rfl
theorem st_spec_l2Rule : symFn cx f_spec_l2Rule = some tr_spec_l2Rule := by kernel_rfl
theorem st_spec_SystemValid : symFn cx f_spec_SystemValid = some tr_spec_SystemValid := by kernel_rfl
theorem st_spec_l1Needed : symFn cx f_spec_l1Needed = some tr_spec_l1Needed := by kernel_rfl
theorem st_spec_UsedBy : symFn cx f_spec_UsedBy = some tr_spec_UsedBy := by kernel_rfl
theorem st_spec_l2Has : symFn cx f_spec_l2Has = some tr_spec_l2Has := by kernel_rfl
theorem st_spec_TouchedBy : symFn cx f_spec_TouchedBy = some tr_spec_TouchedBy := by kernel_rfl
theorem st_spec_l26Meet : symFn cx f_spec_l26Meet = some tr_spec_l26Meet := by kernel_rfl
theorem st_spec_l26Apart : symFn cx f_spec_l26Apart = some tr_spec_l26Apart := by kernel_rfl
theorem st_spec_RulesApart : symFn cx f_spec_RulesApart = some tr_spec_RulesApart := by kernel_rfl
theorem st_impl_SizeOf : symFn cx f_impl_SizeOf = some tr_impl_SizeOf := by kernel_rfl
theorem st_spec_SizeOf : symFn cx f_spec_SizeOf = some tr_spec_SizeOf := by kernel_rfl
theorem st_impl_stateAt : symFn cx f_impl_stateAt = some tr_impl_stateAt := by kernel_rfl
theorem st_impl_StateAt : symFn cx f_impl_StateAt = some tr_impl_StateAt := by kernel_rfl
theorem st_impl_inRange : symFn cx f_impl_inRange = some tr_impl_inRange := by kernel_rfl
theorem st_impl_InRange : symFn cx f_impl_InRange = some tr_impl_InRange := by kernel_rfl
theorem st_impl_held : symFn cx f_impl_held = some tr_impl_held := by kernel_rfl
theorem st_impl_bit : symFn cx f_impl_bit = some tr_impl_bit := by kernel_rfl
theorem st_impl_do : symFn cx f_impl_do = some tr_impl_do := by kernel_rfl
theorem st_impl_eval : symFn cx f_impl_eval = some tr_impl_eval := by kernel_rfl
theorem st_impl_use : symFn cx f_impl_use = some tr_impl_use := by kernel_rfl
theorem st_impl_Use : symFn cx f_impl_Use = some tr_impl_Use := by kernel_rfl
theorem st_slices_Equal_Sint_int : symFn cx f_slices_Equal_Sint_int = some tr_slices_Equal_Sint_int := by kernel_rfl
theorem st_impl_RulesCommute : symFn cx f_impl_RulesCommute = some tr_impl_RulesCommute := by kernel_rfl
theorem st_impl_wakersOf : symFn cx f_impl_wakersOf = some tr_impl_wakersOf := by kernel_rfl
theorem st_impl_WakersOf : symFn cx f_impl_WakersOf = some tr_impl_WakersOf := by kernel_rfl
theorem st_laws_wcHas : symFn cx f_laws_wcHas = some tr_laws_wcHas := by kernel_rfl
end Go.Proofs.YtlfinllnfggiiaaGreat
