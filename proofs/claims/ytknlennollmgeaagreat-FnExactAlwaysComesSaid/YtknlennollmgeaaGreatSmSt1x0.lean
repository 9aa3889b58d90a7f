/- Each function comes to its tree; no condition. -/
import Derived.Test.YtknlennollmgeaaGreatSmTab0
namespace Go.Proofs.YtknlennollmgeaaGreat
open Go Go.Sm Go.Sm.Q
set_option maxRecDepth 100000
theorem st_spec_l4State:symFn cx f_spec_l4State=some tr_spec_l4State:=by kernel_rfl
theorem st_spec_l1Held:symFn cx f_spec_l1Held=some tr_spec_l1Held:=by kernel_rfl
theorem st_spec_l1Truth:symFn cx f_spec_l1Truth=some tr_spec_l1Truth:=by kernel_rfl
theorem st_spec_l1Do:symFn cx f_spec_l1Do=some tr_spec_l1Do:=by kernel_rfl
theorem st_spec_l1Values:symFn cx f_spec_l1Values=some tr_spec_l1Values:=by kernel_rfl
theorem st_spec_l2Last:symFn cx f_spec_l2Last=some tr_spec_l2Last:=by kernel_rfl
theorem st_spec_l2In:symFn cx f_spec_l2In=some tr_spec_l2In:=by kernel_rfl
theorem st_spec_l2Use:symFn cx f_spec_l2Use=some tr_spec_l2Use:=by kernel_rfl
theorem st_spec_l2Same:symFn cx f_spec_l2Same=some tr_spec_l2Same:=by kernel_rfl
theorem st_spec_l2Less:symFn cx f_spec_l2Less=some tr_spec_l2Less:=by kernel_rfl
theorem st_spec_l2Put:symFn cx f_spec_l2Put=some tr_spec_l2Put:=by kernel_rfl
theorem st_spec_l2Next:symFn cx f_spec_l2Next=some tr_spec_l2Next:=by kernel_rfl
theorem st_spec_l4Number:symFn cx f_spec_l4Number=some tr_spec_l4Number:=by kernel_rfl
theorem st_spec_l4Steps:symFn cx f_spec_l4Steps=some tr_spec_l4Steps:=by kernel_rfl
theorem st_spec_l23Usable:symFn cx f_spec_l23Usable=some tr_spec_l23Usable:=by kernel_rfl
theorem st_spec_l4Marks:symFn cx f_spec_l4Marks=some tr_spec_l4Marks:=by kernel_rfl
theorem st_spec_l2Has:symFn cx f_spec_l2Has=some tr_spec_l2Has:=by kernel_rfl
theorem st_spec_l5Turned:symFn cx f_spec_l5Turned=some tr_spec_l5Turned:=by kernel_rfl
theorem st_spec_l5Steps:symFn cx f_spec_l5Steps=some tr_spec_l5Steps:=by kernel_rfl
theorem st_spec_l5Parts:symFn cx f_spec_l5Parts=some tr_spec_l5Parts:=by kernel_rfl
theorem st_spec_l23Parts:symFn cx f_spec_l23Parts=some tr_spec_l23Parts:=by kernel_rfl
theorem st_spec_l23Target:symFn cx f_spec_l23Target=some tr_spec_l23Target:=by kernel_rfl
theorem st_spec_l23Inner:symFn cx f_spec_l23Inner=some tr_spec_l23Inner:=by kernel_rfl
theorem st_spec_l23Strong:symFn cx f_spec_l23Strong=some tr_spec_l23Strong:=by kernel_rfl
theorem st_spec_l23Weak:symFn cx f_spec_l23Weak=some tr_spec_l23Weak:=by kernel_rfl
theorem st_spec_l23Cores:symFn cx f_spec_l23Cores=some tr_spec_l23Cores:=by kernel_rfl
theorem st_spec_FairCores:symFn cx f_spec_FairCores=some tr_spec_FairCores:=by kernel_rfl
theorem st_impl_in:symFn cx f_impl_in=some tr_impl_in:=by kernel_rfl
theorem st_impl_varOk:symFn cx f_impl_varOk=some tr_impl_varOk:=by kernel_rfl
theorem st_impl_size:symFn cx f_impl_size=some tr_impl_size:=by kernel_rfl
end Go.Proofs.YtknlennollmgeaaGreat
