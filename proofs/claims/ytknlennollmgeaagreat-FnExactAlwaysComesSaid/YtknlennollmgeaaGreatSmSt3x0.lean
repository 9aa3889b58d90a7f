/- Each function comes to its tree; no condition. -/
import Derived.Test.YtknlennollmgeaaGreatSmTab0
namespace Go.Proofs.YtknlennollmgeaaGreat
open Go Go.Sm Go.Sm.Q
set_option maxRecDepth 100000
theorem st_impl_tarjan_1:symFn cx f_impl_tarjan_1=some tr_impl_tarjan_1:=by kernel_rfl
theorem st_impl_tarjan:symFn cx f_impl_tarjan=some tr_impl_tarjan:=by kernel_rfl
theorem st_impl_listOf:symFn cx f_impl_listOf=some tr_impl_listOf:=by kernel_rfl
theorem st_slices_Contains_Sint_int:symFn cx f_slices_Contains_Sint_int=some tr_slices_Contains_Sint_int:=by kernel_rfl
theorem st_impl_fairness_leads:symFn cx f_impl_fairness_leads=some tr_impl_fairness_leads:=by kernel_rfl
theorem st_slices_Clone_Sbool_bool:symFn cx f_slices_Clone_Sbool_bool=some tr_slices_Clone_Sbool_bool:=by kernel_rfl
theorem st_impl_fairness_cores:symFn cx f_impl_fairness_cores=some tr_impl_fairness_cores:=by kernel_rfl
theorem st_laws_eqIntS:symFn cx f_laws_eqIntS=some tr_laws_eqIntS:=by kernel_rfl
theorem st_laws_eqVar:symFn cx f_laws_eqVar=some tr_laws_eqVar:=by kernel_rfl
theorem st_laws_eqVarS:symFn cx f_laws_eqVarS=some tr_laws_eqVarS:=by kernel_rfl
theorem st_laws_eqTerm:symFn cx f_laws_eqTerm=some tr_laws_eqTerm:=by kernel_rfl
theorem st_laws_eqTermS:symFn cx f_laws_eqTermS=some tr_laws_eqTermS:=by kernel_rfl
theorem st_laws_eqTermSS:symFn cx f_laws_eqTermSS=some tr_laws_eqTermSS:=by kernel_rfl
theorem st_laws_eqRule:symFn cx f_laws_eqRule=some tr_laws_eqRule:=by kernel_rfl
theorem st_laws_eqRuleS:symFn cx f_laws_eqRuleS=some tr_laws_eqRuleS:=by kernel_rfl
theorem st_laws_eqSystem:symFn cx f_laws_eqSystem=some tr_laws_eqSystem:=by kernel_rfl
theorem st_spec_l14Range:symFn cx f_spec_l14Range=some tr_spec_l14Range:=by kernel_rfl
theorem st_impl_pasts:symFn cx f_impl_pasts=some tr_impl_pasts:=by kernel_rfl
theorem st_slices_Concat_Sint_int:symFn cx f_slices_Concat_Sint_int=some tr_slices_Concat_Sint_int:=by kernel_rfl
theorem st_impl_reach:symFn cx f_impl_reach=some tr_impl_reach:=by kernel_rfl
theorem st_impl_fairness_fairWithin:symFn cx f_impl_fairness_fairWithin=some tr_impl_fairness_fairWithin:=by kernel_rfl
theorem st_impl_truthOf:symFn cx f_impl_truthOf=some tr_impl_truthOf:=by kernel_rfl
theorem st_impl_where:symFn cx f_impl_where=some tr_impl_where:=by kernel_rfl
theorem st_impl_goodIn:symFn cx f_impl_goodIn=some tr_impl_goodIn:=by kernel_rfl
theorem st_impl_first:symFn cx f_impl_first=some tr_impl_first:=by kernel_rfl
theorem st_impl_AlwaysComes:symFn cx f_impl_AlwaysComes=some tr_impl_AlwaysComes:=by kernel_rfl
theorem st_spec_StatesWhere:symFn cx f_spec_StatesWhere=some tr_spec_StatesWhere:=by kernel_rfl
theorem st_spec_l4Set:symFn cx f_spec_l4Set=some tr_spec_l4Set:=by kernel_rfl
theorem st_spec_l4Mix:symFn cx f_spec_l4Mix=some tr_spec_l4Mix:=by kernel_rfl
theorem st_spec_SetWithout:symFn cx f_spec_SetWithout=some tr_spec_SetWithout:=by kernel_rfl
end Go.Proofs.YtknlennollmgeaaGreat
