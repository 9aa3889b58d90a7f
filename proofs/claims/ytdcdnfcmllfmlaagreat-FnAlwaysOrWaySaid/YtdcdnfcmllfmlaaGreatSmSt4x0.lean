/- Each function comes to its tree; no condition. -/
import Derived.Test.YtdcdnfcmllfmlaaGreatSmTab0
namespace Go.Proofs.YtdcdnfcmllfmlaaGreat
open Go Go.Sm Go.Sm.Q
set_option maxRecDepth 100000
theorem st_laws_FnAlwaysOrWay : symFn cx f_laws_FnAlwaysOrWay = some tr_laws_FnAlwaysOrWay := by kernel_rfl
end Go.Proofs.YtdcdnfcmllfmlaaGreat
