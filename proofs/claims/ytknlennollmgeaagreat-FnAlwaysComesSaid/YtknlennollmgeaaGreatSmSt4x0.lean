/- Each function comes to its tree; no condition. -/
import Derived.Test.YtknlennollmgeaaGreatSmTab0
namespace Go.Proofs.YtknlennollmgeaaGreat
open Go Go.Sm Go.Sm.Q
set_option maxRecDepth 100000
theorem Zo3:Zq cx ZcZ=some ZeX:=by kernel_rfl
end Go.Proofs.YtknlennollmgeaaGreat
