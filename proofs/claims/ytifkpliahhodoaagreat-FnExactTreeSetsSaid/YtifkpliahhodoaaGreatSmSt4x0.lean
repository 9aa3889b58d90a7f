/- Each function comes to its tree; no condition. -/
import Derived.Test.YtifkpliahhodoaaGreatSmTab0
namespace Go.Proofs.YtifkpliahhodoaaGreat
open Go Go.Sm Go.Sm.Q
set_option maxRecDepth 100000
theorem st_laws_FnExactTreeSets : symFn cx f_laws_FnExactTreeSets = some tr_laws_FnExactTreeSets := by kernel_rfl
end Go.Proofs.YtifkpliahhodoaaGreat
