/- Each function comes to its tree; no condition. -/
import Derived.Test.YthapopegchnhlaaGreatSmTab0
namespace Go.Proofs.YthapopegchnhlaaGreat
open Go Go.Sm Go.Sm.Q
set_option maxRecDepth 100000
theorem st_laws_eqTermS : symFn cx f_laws_eqTermS = some tr_laws_eqTermS := by kernel_rfl
theorem st_laws_eqIntS : symFn cx f_laws_eqIntS = some tr_laws_eqIntS := by kernel_rfl
theorem st_laws_eqTermSS : symFn cx f_laws_eqTermSS = some tr_laws_eqTermSS := by kernel_rfl
theorem st_laws_eqRule : symFn cx f_laws_eqRule = some tr_laws_eqRule := by kernel_rfl
theorem st_laws_eqRuleS : symFn cx f_laws_eqRuleS = some tr_laws_eqRuleS := by kernel_rfl
theorem st_laws_eqSystem : symFn cx f_laws_eqSystem = some tr_laws_eqSystem := by kernel_rfl
theorem st_laws_eqTime : symFn cx f_laws_eqTime = some tr_laws_eqTime := by kernel_rfl
theorem st_laws_eqTimeS : symFn cx f_laws_eqTimeS = some tr_laws_eqTimeS := by kernel_rfl
theorem st_laws_eqIntSS : symFn cx f_laws_eqIntSS = some tr_laws_eqIntSS := by kernel_rfl
theorem st_laws_FnExactHoldsOnRun : symFn cx f_laws_FnExactHoldsOnRun = some tr_laws_FnExactHoldsOnRun := by kernel_rfl
end Go.Proofs.YthapopegchnhlaaGreat
