/- Each function comes to its tree; no condition. -/
import Derived.Test.YtlfinllnfggiiaaGreatSmTab0
namespace Go.Proofs.YtlfinllnfggiiaaGreat
open Go Go.Sm Go.Sm.Q
set_option maxRecDepth 100000
theorem st_laws_FnRulesApart : symFn cx f_laws_FnRulesApart = some tr_laws_FnRulesApart := by kernel_rfl
end Go.Proofs.YtlfinllnfggiiaaGreat
