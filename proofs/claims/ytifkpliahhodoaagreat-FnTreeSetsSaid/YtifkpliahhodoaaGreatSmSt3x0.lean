/- Each function comes to its tree; no condition. -/
import Derived.Test.YtifkpliahhodoaaGreatSmTab0
namespace Go.Proofs.YtifkpliahhodoaaGreat
open Go Go.Sm Go.Sm.Q
set_option maxRecDepth 100000
theorem st_spec_l1Pick:symFn cx f_spec_l1Pick=some tr_spec_l1Pick:=by kernel_rfl
theorem st_spec_l1Terms:symFn cx f_spec_l1Terms=some tr_spec_l1Terms:=by kernel_rfl
theorem st_spec_l2Value:symFn cx f_spec_l2Value=some tr_spec_l2Value:=by kernel_rfl
theorem st_spec_l2Rules:symFn cx f_spec_l2Rules=some tr_spec_l2Rules:=by kernel_rfl
theorem st_spec_l2System:symFn cx f_spec_l2System=some tr_spec_l2System:=by kernel_rfl
theorem st_spec_l2Any:symFn cx f_spec_l2Any=some tr_spec_l2Any:=by kernel_rfl
theorem st_spec_l1Any:symFn cx f_spec_l1Any=some tr_spec_l1Any:=by kernel_rfl
theorem st_spec_l20Asked:symFn cx f_spec_l20Asked=some tr_spec_l20Asked:=by kernel_rfl
theorem st_spec_l24Draw:symFn cx f_spec_l24Draw=some tr_spec_l24Draw:=by kernel_rfl
theorem st_spec_l24Any:symFn cx f_spec_l24Any=some tr_spec_l24Any:=by kernel_rfl
theorem st_spec_l24Ask:symFn cx f_spec_l24Ask=some tr_spec_l24Ask:=by kernel_rfl
theorem st_spec_DrawTreeSets:symFn cx f_spec_DrawTreeSets=some tr_spec_DrawTreeSets:=by kernel_rfl
theorem st_impl_SizeOf:symFn cx f_impl_SizeOf=some tr_impl_SizeOf:=by kernel_rfl
theorem st_laws_wcInts:symFn cx f_laws_wcInts=some tr_laws_wcInts:=by kernel_rfl
theorem st_impl_setOk:symFn cx f_impl_setOk=some tr_impl_setOk:=by kernel_rfl
theorem st_impl_SetValid:symFn cx f_impl_SetValid=some tr_impl_SetValid:=by kernel_rfl
theorem st_impl_over:symFn cx f_impl_over=some tr_impl_over:=by kernel_rfl
theorem st_impl_NextNumbers:symFn cx f_impl_NextNumbers=some tr_impl_NextNumbers:=by kernel_rfl
theorem st_impl_marks:symFn cx f_impl_marks=some tr_impl_marks:=by kernel_rfl
theorem st_impl_SetBoth:symFn cx f_impl_SetBoth=some tr_impl_SetBoth:=by kernel_rfl
theorem st_impl_SetWithout:symFn cx f_impl_SetWithout=some tr_impl_SetWithout:=by kernel_rfl
theorem st_laws_wcHas:symFn cx f_laws_wcHas=some tr_laws_wcHas:=by kernel_rfl
theorem st_laws_FnTreeSets:symFn cx f_laws_FnTreeSets=some tr_laws_FnTreeSets:=by kernel_rfl
end Go.Proofs.YtifkpliahhodoaaGreat
