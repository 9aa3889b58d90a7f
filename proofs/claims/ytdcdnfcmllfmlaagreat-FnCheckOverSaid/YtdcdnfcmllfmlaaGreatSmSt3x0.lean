/- Each function comes to its tree; no condition. -/
import Derived.Test.YtdcdnfcmllfmlaaGreatSmTab0
namespace Go.Proofs.YtdcdnfcmllfmlaaGreat
open Go Go.Sm Go.Sm.Q
set_option maxRecDepth 100000
theorem st_spec_l3Between:symFn cx f_spec_l3Between=some tr_spec_l3Between:=by kernel_rfl
theorem st_spec_TraceOf:symFn cx f_spec_TraceOf=some tr_spec_TraceOf:=by kernel_rfl
theorem st_laws_wcInts:symFn cx f_laws_wcInts=some tr_laws_wcInts:=by kernel_rfl
theorem st_impl_TraceValid:symFn cx f_impl_TraceValid=some tr_impl_TraceValid:=by kernel_rfl
theorem st_slices_Clone_Sint_int:symFn cx f_slices_Clone_Sint_int=some tr_slices_Clone_Sint_int:=by kernel_rfl
theorem st_impl_reach:symFn cx f_impl_reach=some tr_impl_reach:=by kernel_rfl
theorem st_impl_reachOf:symFn cx f_impl_reachOf=some tr_impl_reachOf:=by kernel_rfl
theorem st_impl_always:symFn cx f_impl_always=some tr_impl_always:=by kernel_rfl
theorem st_impl_Always:symFn cx f_impl_Always=some tr_impl_Always:=by kernel_rfl
theorem st_spec_l4List:symFn cx f_spec_l4List=some tr_spec_l4List:=by kernel_rfl
theorem st_spec_l4Set:symFn cx f_spec_l4Set=some tr_spec_l4Set:=by kernel_rfl
theorem st_spec_l4Mix:symFn cx f_spec_l4Mix=some tr_spec_l4Mix:=by kernel_rfl
theorem st_spec_SetWithout:symFn cx f_spec_SetWithout=some tr_spec_SetWithout:=by kernel_rfl
theorem st_impl_TermsValid:symFn cx f_impl_TermsValid=some tr_impl_TermsValid:=by kernel_rfl
theorem st_impl_setOk:symFn cx f_impl_setOk=some tr_impl_setOk:=by kernel_rfl
theorem st_impl_SetValid:symFn cx f_impl_SetValid=some tr_impl_SetValid:=by kernel_rfl
theorem st_impl_marks:symFn cx f_impl_marks=some tr_impl_marks:=by kernel_rfl
theorem st_impl_over:symFn cx f_impl_over=some tr_impl_over:=by kernel_rfl
theorem st_impl_closed:symFn cx f_impl_closed=some tr_impl_closed:=by kernel_rfl
theorem st_impl_Closed:symFn cx f_impl_Closed=some tr_impl_Closed:=by kernel_rfl
theorem st_impl_Proves:symFn cx f_impl_Proves=some tr_impl_Proves:=by kernel_rfl
theorem st_impl_stateOk:symFn cx f_impl_stateOk=some tr_impl_stateOk:=by kernel_rfl
theorem st_impl_Eval:symFn cx f_impl_Eval=some tr_impl_Eval:=by kernel_rfl
theorem st_impl_valueBits:symFn cx f_impl_valueBits=some tr_impl_valueBits:=by kernel_rfl
theorem st_impl_bitsFor:symFn cx f_impl_bitsFor=some tr_impl_bitsFor:=by kernel_rfl
theorem st_spec_l6Value:symFn cx f_spec_l6Value=some tr_spec_l6Value:=by kernel_rfl
theorem st_spec_l6Many:symFn cx f_spec_l6Many=some tr_spec_l6Many:=by kernel_rfl
theorem st_spec_l15Ask:symFn cx f_spec_l15Ask=some tr_spec_l15Ask:=by kernel_rfl
theorem st_spec_DrawCloseIn:symFn cx f_spec_DrawCloseIn=some tr_spec_DrawCloseIn:=by kernel_rfl
theorem st_spec_DrawCheckOver:symFn cx f_spec_DrawCheckOver=some tr_spec_DrawCheckOver:=by kernel_rfl
end Go.Proofs.YtdcdnfcmllfmlaaGreat
