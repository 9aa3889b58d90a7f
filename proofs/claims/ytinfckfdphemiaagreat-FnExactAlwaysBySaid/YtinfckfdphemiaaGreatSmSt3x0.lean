/- Each function comes to its tree; no condition. -/
import Derived.Test.YtinfckfdphemiaaGreatSmTab0
/- Printed by a program: the functions come to their trees. -/
namespace Go.Proofs.YtinfckfdphemiaaGreat
open Go Go.Sm Go.Sm.Q
set_option maxRecDepth 100000
theorem st_spec_l6Sum : symFn cx f_spec_l6Sum = some tr_spec_l6Sum := by kernel_rfl
theorem st_spec_l10Wide : symFn cx f_spec_l10Wide = some tr_spec_l10Wide := by kernel_rfl
theorem st_spec_l4Behind : symFn cx f_spec_l4Behind = some tr_spec_l4Behind := by kernel_rfl
theorem st_spec_l4Set : symFn cx f_spec_l4Set = some tr_spec_l4Set := by kernel_rfl
theorem st_spec_l4Mix : symFn cx f_spec_l4Mix = some tr_spec_l4Mix := by kernel_rfl
theorem st_spec_SetEither : symFn cx f_spec_SetEither = some tr_spec_SetEither := by kernel_rfl
theorem st_spec_ReachBy : symFn cx f_spec_ReachBy = some tr_spec_ReachBy := by kernel_rfl
theorem st_spec_StatesWhere : symFn cx f_spec_StatesWhere = some tr_spec_StatesWhere := by kernel_rfl
theorem st_spec_SetWithout : symFn cx f_spec_SetWithout = some tr_spec_SetWithout := by kernel_rfl
theorem st_spec_AlwaysBy : symFn cx f_spec_AlwaysBy = some tr_spec_AlwaysBy := by kernel_rfl
theorem st_laws_FnExactAlwaysBy : symFn cx f_laws_FnExactAlwaysBy = some tr_laws_FnExactAlwaysBy := by kernel_rfl
end Go.Proofs.YtinfckfdphemiaaGreat
