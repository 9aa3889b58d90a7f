/- Each function comes to its tree; no condition. -/
import Derived.Test.YtinfckfdphemiaaGreatSmTab0
/- Printed by a program: the functions come to their trees. -/
namespace Go.Proofs.YtinfckfdphemiaaGreat
open Go Go.Sm Go.Sm.Q
set_option maxRecDepth 100000
theorem st_laws_markTermS : symFn cx f_laws_markTermS = some tr_laws_markTermS := by kernel_rfl
theorem st_laws_markIntS : symFn cx f_laws_markIntS = some tr_laws_markIntS := by kernel_rfl
theorem st_laws_markTermSS : symFn cx f_laws_markTermSS = some tr_laws_markTermSS := by kernel_rfl
theorem st_laws_markRuleS : symFn cx f_laws_markRuleS = some tr_laws_markRuleS := by kernel_rfl
theorem st_laws_markSystem : symFn cx f_laws_markSystem = some tr_laws_markSystem := by kernel_rfl
theorem st_laws_heldIntS : symFn cx f_laws_heldIntS = some tr_laws_heldIntS := by kernel_rfl
theorem st_laws_FnExactBackWithin : symFn cx f_laws_FnExactBackWithin = some tr_laws_FnExactBackWithin := by kernel_rfl
end Go.Proofs.YtinfckfdphemiaaGreat
