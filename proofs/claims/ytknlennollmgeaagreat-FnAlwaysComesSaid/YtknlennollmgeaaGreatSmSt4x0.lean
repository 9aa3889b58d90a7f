/- Each function comes to its tree; no condition. -/
import Derived.Test.YtknlennollmgeaaGreatSmTab0
namespace Go.Proofs.YtknlennollmgeaaGreat
open Go Go.Sm Go.Sm.Q
set_option maxRecDepth 100000
theorem ZoN:Zm cx Zdr=some Zfp:=by kernel_rfl
end Go.Proofs.YtknlennollmgeaaGreat
