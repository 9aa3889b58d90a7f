/- Each function comes to its tree; no condition. -/
import Derived.Test.YtdgpohclhppodaaGreatSmTab0
namespace Go.Proofs.YtdgpohclhppodaaGreat
open Go Go.Sm Go.Sm.Q
set_option maxRecDepth 100000
theorem st_impl_SystemValid:symFn cx f_impl_SystemValid=some tr_impl_SystemValid:=by kernel_rfl
theorem st_impl_held:symFn cx f_impl_held=some tr_impl_held:=by kernel_rfl
theorem st_impl_bit:symFn cx f_impl_bit=some tr_impl_bit:=by kernel_rfl
theorem st_impl_do:symFn cx f_impl_do=some tr_impl_do:=by kernel_rfl
theorem st_impl_eval:symFn cx f_impl_eval=some tr_impl_eval:=by kernel_rfl
theorem st_impl_clone_int:symFn cx f_impl_clone_int=some tr_impl_clone_int:=by kernel_rfl
theorem st_impl_first:symFn cx f_impl_first=some tr_impl_first:=by kernel_rfl
theorem st_impl_inRange:symFn cx f_impl_inRange=some tr_impl_inRange:=by kernel_rfl
theorem st_impl_use:symFn cx f_impl_use=some tr_impl_use:=by kernel_rfl
theorem st_slices_Equal_Sint_int:symFn cx f_slices_Equal_Sint_int=some tr_slices_Equal_Sint_int:=by kernel_rfl
theorem st_impl_ruleBetween:symFn cx f_impl_ruleBetween=some tr_impl_ruleBetween:=by kernel_rfl
theorem st_spec_l2Is:symFn cx f_spec_l2Is=some tr_spec_l2Is:=by kernel_rfl
theorem st_spec_l2Rule:symFn cx f_spec_l2Rule=some tr_spec_l2Rule:=by kernel_rfl
theorem st_spec_SystemValid:symFn cx f_spec_SystemValid=some tr_spec_SystemValid:=by kernel_rfl
theorem st_spec_FirstState:symFn cx f_spec_FirstState=some tr_spec_FirstState:=by kernel_rfl
theorem st_spec_l3Copy:symFn cx f_spec_l3Copy=some tr_spec_l3Copy:=by kernel_rfl
theorem st_spec_l1Held:symFn cx f_spec_l1Held=some tr_spec_l1Held:=by kernel_rfl
theorem st_spec_l1Truth:symFn cx f_spec_l1Truth=some tr_spec_l1Truth:=by kernel_rfl
theorem st_spec_l1Do:symFn cx f_spec_l1Do=some tr_spec_l1Do:=by kernel_rfl
theorem st_spec_l1Values:symFn cx f_spec_l1Values=some tr_spec_l1Values:=by kernel_rfl
theorem st_spec_l2Last:symFn cx f_spec_l2Last=some tr_spec_l2Last:=by kernel_rfl
theorem st_spec_l2In:symFn cx f_spec_l2In=some tr_spec_l2In:=by kernel_rfl
theorem st_spec_l2Use:symFn cx f_spec_l2Use=some tr_spec_l2Use:=by kernel_rfl
theorem st_spec_l2Same:symFn cx f_spec_l2Same=some tr_spec_l2Same:=by kernel_rfl
theorem st_spec_l2Less:symFn cx f_spec_l2Less=some tr_spec_l2Less:=by kernel_rfl
theorem st_spec_l2Put:symFn cx f_spec_l2Put=some tr_spec_l2Put:=by kernel_rfl
theorem st_spec_l2Next:symFn cx f_spec_l2Next=some tr_spec_l2Next:=by kernel_rfl
theorem st_spec_l2Some:symFn cx f_spec_l2Some=some tr_spec_l2Some:=by kernel_rfl
theorem st_spec_l3Laced:symFn cx f_spec_l3Laced=some tr_spec_l3Laced:=by kernel_rfl
theorem st_spec_l20Asked:symFn cx f_spec_l20Asked=some tr_spec_l20Asked:=by kernel_rfl
end Go.Proofs.YtdgpohclhppodaaGreat
