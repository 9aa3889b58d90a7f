/- Each function comes to its tree; no condition. -/
import Derived.Test.YtilmaoicaejbdaaGreatSmTab0
namespace Go.Proofs.YtilmaoicaejbdaaGreat
open Go Go.Sm Go.Sm.Q
set_option maxRecDepth 100000
theorem st_impl_do : symFn cx f_impl_do = some tr_impl_do := by kernel_rfl
theorem st_impl_eval : symFn cx f_impl_eval = some tr_impl_eval := by kernel_rfl
theorem st_impl_where : symFn cx f_impl_where = some tr_impl_where := by kernel_rfl
theorem st_impl_goodIn : symFn cx f_impl_goodIn = some tr_impl_goodIn := by kernel_rfl
theorem st_impl_clone_int : symFn cx f_impl_clone_int = some tr_impl_clone_int := by kernel_rfl
theorem st_impl_inRange : symFn cx f_impl_inRange = some tr_impl_inRange := by kernel_rfl
theorem st_impl_use : symFn cx f_impl_use = some tr_impl_use := by kernel_rfl
theorem st_cmp_isNaN_int : symFn cx f_cmp_isNaN_int = some tr_cmp_isNaN_int := by kernel_rfl
theorem st_cmp_Compare_int : symFn cx f_cmp_Compare_int = some tr_cmp_Compare_int := by kernel_rfl
theorem st_slices_Compare_Sint_int : symFn cx f_slices_Compare_Sint_int = some tr_slices_Compare_Sint_int := by kernel_rfl
theorem st_slices_Reverse_SSint_Sint : symFn cx f_slices_Reverse_SSint_Sint = some tr_slices_Reverse_SSint_Sint := by kernel_rfl
theorem st_impl_clone_Sint : symFn cx f_impl_clone_Sint = some tr_impl_clone_Sint := by kernel_rfl
theorem st_impl_nextStates : symFn cx f_impl_nextStates = some tr_impl_nextStates := by kernel_rfl
theorem st_impl_number : symFn cx f_impl_number = some tr_impl_number := by kernel_rfl
theorem st_impl_nexts : symFn cx f_impl_nexts = some tr_impl_nexts := by kernel_rfl
theorem st_slices_Index_Sint_int : symFn cx f_slices_Index_Sint_int = some tr_slices_Index_Sint_int := by kernel_rfl
theorem st_slices_Contains_Sint_int : symFn cx f_slices_Contains_Sint_int = some tr_slices_Contains_Sint_int := by kernel_rfl
theorem st_impl_loopless_1 : symFn cx f_impl_loopless_1 = some tr_impl_loopless_1 := by kernel_rfl
theorem st_impl_loopless : symFn cx f_impl_loopless = some tr_impl_loopless := by kernel_rfl
theorem st_laws_eqIntS : symFn cx f_laws_eqIntS = some tr_laws_eqIntS := by kernel_rfl
theorem st_laws_eqVar : symFn cx f_laws_eqVar = some tr_laws_eqVar := by kernel_rfl
theorem st_laws_eqVarS : symFn cx f_laws_eqVarS = some tr_laws_eqVarS := by kernel_rfl
theorem st_laws_eqTerm : symFn cx f_laws_eqTerm = some tr_laws_eqTerm := by kernel_rfl
theorem st_laws_eqTermS : symFn cx f_laws_eqTermS = some tr_laws_eqTermS := by kernel_rfl
theorem st_laws_eqTermSS : symFn cx f_laws_eqTermSS = some tr_laws_eqTermSS := by kernel_rfl
theorem st_laws_eqRule : symFn cx f_laws_eqRule = some tr_laws_eqRule := by kernel_rfl
theorem st_laws_eqRuleS : symFn cx f_laws_eqRuleS = some tr_laws_eqRuleS := by kernel_rfl
theorem st_laws_eqSystem : symFn cx f_laws_eqSystem = some tr_laws_eqSystem := by kernel_rfl
theorem st_spec_l40Open : symFn cx f_spec_l40Open = some tr_spec_l40Open := by kernel_rfl
theorem st_spec_l40Rd_pick : symFn cx f_spec_l40Rd_pick = some tr_spec_l40Rd_pick := by kernel_rfl
end Go.Proofs.YtilmaoicaejbdaaGreat
