/- Each function comes to its tree; no condition. -/
import Derived.Test.YtdcdnfcmllfmlaaGreatSmTab0
namespace Go.Proofs.YtdcdnfcmllfmlaaGreat
open Go Go.Sm Go.Sm.Q
set_option maxRecDepth 100000
theorem st_laws_szSystem : symFn cx f_laws_szSystem = some tr_laws_szSystem := by kernel_rfl
theorem st_laws_szTimeS : symFn cx f_laws_szTimeS = some tr_laws_szTimeS := by kernel_rfl
theorem st_laws_toVar : symFn cx f_laws_toVar = some tr_laws_toVar := by kernel_rfl
theorem st_laws_toVarS : symFn cx f_laws_toVarS = some tr_laws_toVarS := by kernel_rfl
theorem st_laws_toTerm : symFn cx f_laws_toTerm = some tr_laws_toTerm := by kernel_rfl
theorem st_laws_toTermS : symFn cx f_laws_toTermS = some tr_laws_toTermS := by kernel_rfl
theorem st_laws_toIntS : symFn cx f_laws_toIntS = some tr_laws_toIntS := by kernel_rfl
theorem st_laws_toTermSS : symFn cx f_laws_toTermSS = some tr_laws_toTermSS := by kernel_rfl
theorem st_laws_toRule : symFn cx f_laws_toRule = some tr_laws_toRule := by kernel_rfl
theorem st_laws_toRuleS : symFn cx f_laws_toRuleS = some tr_laws_toRuleS := by kernel_rfl
theorem st_laws_toSystem : symFn cx f_laws_toSystem = some tr_laws_toSystem := by kernel_rfl
theorem st_laws_toTime : symFn cx f_laws_toTime = some tr_laws_toTime := by kernel_rfl
theorem st_laws_toTimeS : symFn cx f_laws_toTimeS = some tr_laws_toTimeS := by kernel_rfl
theorem st_laws_eqIntS : symFn cx f_laws_eqIntS = some tr_laws_eqIntS := by kernel_rfl
theorem st_laws_eqVar : symFn cx f_laws_eqVar = some tr_laws_eqVar := by kernel_rfl
theorem st_laws_eqVarS : symFn cx f_laws_eqVarS = some tr_laws_eqVarS := by kernel_rfl
theorem st_laws_eqTerm : symFn cx f_laws_eqTerm = some tr_laws_eqTerm := by kernel_rfl
theorem st_laws_eqTermS : symFn cx f_laws_eqTermS = some tr_laws_eqTermS := by kernel_rfl
theorem st_laws_eqTermSS : symFn cx f_laws_eqTermSS = some tr_laws_eqTermSS := by kernel_rfl
theorem st_laws_eqRule : symFn cx f_laws_eqRule = some tr_laws_eqRule := by kernel_rfl
theorem st_laws_eqRuleS : symFn cx f_laws_eqRuleS = some tr_laws_eqRuleS := by kernel_rfl
theorem st_laws_eqSystem : symFn cx f_laws_eqSystem = some tr_laws_eqSystem := by kernel_rfl
theorem st_laws_eqTime : symFn cx f_laws_eqTime = some tr_laws_eqTime := by kernel_rfl
theorem st_laws_eqTimeS : symFn cx f_laws_eqTimeS = some tr_laws_eqTimeS := by kernel_rfl
theorem st_laws_markVarS : symFn cx f_laws_markVarS = some tr_laws_markVarS := by kernel_rfl
theorem st_laws_markTermS : symFn cx f_laws_markTermS = some tr_laws_markTermS := by kernel_rfl
theorem st_laws_markIntS : symFn cx f_laws_markIntS = some tr_laws_markIntS := by kernel_rfl
theorem st_laws_markTermSS : symFn cx f_laws_markTermSS = some tr_laws_markTermSS := by kernel_rfl
theorem st_laws_markRuleS : symFn cx f_laws_markRuleS = some tr_laws_markRuleS := by kernel_rfl
theorem st_laws_markSystem : symFn cx f_laws_markSystem = some tr_laws_markSystem := by kernel_rfl
end Go.Proofs.YtdcdnfcmllfmlaaGreat
