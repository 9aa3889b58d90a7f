/- Each function comes to its tree; no condition. -/
import Derived.Test.YtdcdnfcmllfmlaaGreatSmTab0
namespace Go.Proofs.YtdcdnfcmllfmlaaGreat
open Go Go.Sm Go.Sm.Q
set_option maxRecDepth 100000
theorem st_laws_markTimeS : symFn cx f_laws_markTimeS = some tr_laws_markTimeS := by kernel_rfl
theorem st_laws_heldIntS : symFn cx f_laws_heldIntS = some tr_laws_heldIntS := by kernel_rfl
theorem st_laws_FnExactProductNext : symFn cx f_laws_FnExactProductNext = some tr_laws_FnExactProductNext := by kernel_rfl
end Go.Proofs.YtdcdnfcmllfmlaaGreat
