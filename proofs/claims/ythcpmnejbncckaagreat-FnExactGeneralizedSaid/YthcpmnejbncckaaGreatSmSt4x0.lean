/- Each function comes to its tree; no condition. -/
import Derived.Test.YthcpmnejbncckaaGreatSmTab0
/- Printed by a program: the functions come to their trees. -/
namespace Go.Proofs.YthcpmnejbncckaaGreat
open Go Go.Sm Go.Sm.Q
set_option maxRecDepth 100000
theorem st_laws_FnExactGeneralized : symFn cx f_laws_FnExactGeneralized = some tr_laws_FnExactGeneralized := by kernel_rfl
end Go.Proofs.YthcpmnejbncckaaGreat
