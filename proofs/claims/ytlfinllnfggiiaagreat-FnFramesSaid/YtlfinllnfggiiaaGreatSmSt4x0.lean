/- Each function comes to its tree; no condition. -/
import Derived.Test.YtlfinllnfggiiaaGreatSmTab0
namespace Go.Proofs.YtlfinllnfggiiaaGreat
open Go Go.Sm Go.Sm.Q
set_option maxRecDepth 100000
theorem st_impl_SetValid:symFn cx f_impl_SetValid=some tr_impl_SetValid:=by kernel_rfl
theorem st_impl_closed:symFn cx f_impl_closed=some tr_impl_closed:=by kernel_rfl
theorem st_impl_Closed:symFn cx f_impl_Closed=some tr_impl_Closed:=by kernel_rfl
theorem st_laws_FnFrames:symFn cx f_laws_FnFrames=some tr_laws_FnFrames:=by kernel_rfl
end Go.Proofs.YtlfinllnfggiiaaGreat
