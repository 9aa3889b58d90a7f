/- Each function comes to its tree; no condition. -/
import Derived.Test.YtboikipchhgdlaaGreatSmTab0
namespace Go.Proofs.YtboikipchhgdlaaGreat
open Go Go.Sm Go.Sm.Q
set_option maxRecDepth 100000
theorem st_laws_szVarS : symFn cx f_laws_szVarS = some tr_laws_szVarS := by kernel_rfl
theorem st_laws_szTermS : symFn cx f_laws_szTermS = some tr_laws_szTermS := by kernel_rfl
theorem st_laws_szIntS : symFn cx f_laws_szIntS = some tr_laws_szIntS := by kernel_rfl
theorem st_laws_szTermSS : symFn cx f_laws_szTermSS = some tr_laws_szTermSS := by kernel_rfl
theorem st_laws_szRule : symFn cx f_laws_szRule = some tr_laws_szRule := by kernel_rfl
theorem st_laws_szRuleS : symFn cx f_laws_szRuleS = some tr_laws_szRuleS := by kernel_rfl
theorem st_laws_szSystem : symFn cx f_laws_szSystem = some tr_laws_szSystem := by kernel_rfl
theorem st_laws_toVar : symFn cx f_laws_toVar = some tr_laws_toVar := by kernel_rfl
theorem st_laws_toVarS : symFn cx f_laws_toVarS = some tr_laws_toVarS := by kernel_rfl
theorem st_laws_toTerm : symFn cx f_laws_toTerm = some tr_laws_toTerm := by kernel_rfl
theorem st_laws_toTermS : symFn cx f_laws_toTermS = some tr_laws_toTermS := by kernel_rfl
theorem st_laws_toIntS : symFn cx f_laws_toIntS = some tr_laws_toIntS := by kernel_rfl
theorem st_laws_toTermSS : symFn cx f_laws_toTermSS = some tr_laws_toTermSS := by kernel_rfl
theorem st_laws_toRule : symFn cx f_laws_toRule = some tr_laws_toRule := by kernel_rfl
theorem st_laws_toRuleS : symFn cx f_laws_toRuleS = some tr_laws_toRuleS := by kernel_rfl
theorem st_laws_toSystem : symFn cx f_laws_toSystem = some tr_laws_toSystem := by kernel_rfl
theorem st_spec_l1In : symFn cx f_spec_l1In = some tr_spec_l1In := by kernel_rfl
theorem st_spec_l2Var : symFn cx f_spec_l2Var = some tr_spec_l2Var := by kernel_rfl
theorem st_spec_l1One : symFn cx f_spec_l1One = some tr_spec_l1One := by kernel_rfl
theorem st_spec_l1Kind : symFn cx f_spec_l1Kind = some tr_spec_l1Kind := by kernel_rfl
theorem st_spec_KindsOf : symFn cx f_spec_KindsOf = some tr_spec_KindsOf := by kernel_rfl
theorem st_spec_l2Is : symFn cx f_spec_l2Is = some tr_spec_l2Is := by kernel_rfl
theorem st_spec_l2Rule : symFn cx f_spec_l2Rule = some tr_spec_l2Rule := by kernel_rfl
theorem st_spec_SystemValid : symFn cx f_spec_SystemValid = some tr_spec_SystemValid := by kernel_rfl
theorem st_spec_l6Many : symFn cx f_spec_l6Many = some tr_spec_l6Many := by kernel_rfl
theorem st_spec_l6Widths : symFn cx f_spec_l6Widths = some tr_spec_l6Widths := by kernel_rfl
theorem st_spec_l6Sum : symFn cx f_spec_l6Sum = some tr_spec_l6Sum := by kernel_rfl
theorem st_spec_l10Wide : symFn cx f_spec_l10Wide = some tr_spec_l10Wide := by kernel_rfl
theorem st_spec_SizeOf : symFn cx f_spec_SizeOf = some tr_spec_SizeOf := by kernel_rfl
theorem st_spec_FirstState : symFn cx f_spec_FirstState = some tr_spec_FirstState := by kernel_rfl
end Go.Proofs.YtboikipchhgdlaaGreat
