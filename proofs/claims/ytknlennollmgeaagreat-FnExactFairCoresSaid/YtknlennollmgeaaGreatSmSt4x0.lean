/- Each function comes to its tree; no condition. -/
import Derived.Test.YtknlennollmgeaaGreatSmTab0
namespace Go.Proofs.YtknlennollmgeaaGreat
open Go Go.Sm Go.Sm.Q
set_option maxRecDepth 100000
theorem st_laws_FnExactFairCores:symFn cx f_laws_FnExactFairCores=some tr_laws_FnExactFairCores:=by kernel_rfl
end Go.Proofs.YtknlennollmgeaaGreat
