/- Each function comes to its tree; no condition. -/
import Derived.Test.YthapopegchnhlabGreatSmTab0
namespace Go.Proofs.YthapopegchnhlabGreat
open Go Go.Sm Go.Sm.Q
set_option maxRecDepth 100000
theorem st_laws_markIntS : symFn cx f_laws_markIntS = some tr_laws_markIntS := by kernel_rfl
theorem st_laws_markTermSS : symFn cx f_laws_markTermSS = some tr_laws_markTermSS := by kernel_rfl
theorem st_laws_markRuleS : symFn cx f_laws_markRuleS = some tr_laws_markRuleS := by kernel_rfl
theorem st_laws_markSystem : symFn cx f_laws_markSystem = some tr_laws_markSystem := by kernel_rfl
theorem st_laws_heldIntS : symFn cx f_laws_heldIntS = some tr_laws_heldIntS := by kernel_rfl
theorem st_laws_FnExactReducedReach : symFn cx f_laws_FnExactReducedReach = some tr_laws_FnExactReducedReach := by kernel_rfl
end Go.Proofs.YthapopegchnhlabGreat
