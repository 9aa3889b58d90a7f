/- Each function comes to its tree; no condition. -/
import Derived.Test.YtlfinllnfggiiaaGreatSmTab0
namespace Go.Proofs.YtlfinllnfggiiaaGreat
open Go Go.Sm Go.Sm.Q
set_option maxRecDepth 100000
theorem st_spec_l17Block:symFn cx f_spec_l17Block=some tr_spec_l17Block:=by kernel_rfl
theorem st_spec_l17Close:symFn cx f_spec_l17Close=some tr_spec_l17Close:=by kernel_rfl
theorem st_spec_l17Push:symFn cx f_spec_l17Push=some tr_spec_l17Push:=by kernel_rfl
theorem st_spec_FixedFrame:symFn cx f_spec_FixedFrame=some tr_spec_FixedFrame:=by kernel_rfl
theorem st_spec_CloseIn:symFn cx f_spec_CloseIn=some tr_spec_CloseIn:=by kernel_rfl
theorem st_spec_l4Some:symFn cx f_spec_l4Some=some tr_spec_l4Some:=by kernel_rfl
theorem st_spec_DrawFramesValid:symFn cx f_spec_DrawFramesValid=some tr_spec_DrawFramesValid:=by kernel_rfl
theorem st_impl_number:symFn cx f_impl_number=some tr_impl_number:=by kernel_rfl
theorem st_cmp_Compare_int:symFn cx f_cmp_Compare_int=some tr_cmp_Compare_int:=by kernel_rfl
theorem st_slices_Compare_Sint_int:symFn cx f_slices_Compare_Sint_int=some tr_slices_Compare_Sint_int:=by kernel_rfl
theorem st_slices_Reverse_SSint_Sint:symFn cx f_slices_Reverse_SSint_Sint=some tr_slices_Reverse_SSint_Sint:=by kernel_rfl
theorem st_impl_clone_Sint:symFn cx f_impl_clone_Sint=some tr_impl_clone_Sint:=by kernel_rfl
theorem st_impl_nextStates:symFn cx f_impl_nextStates=some tr_impl_nextStates:=by kernel_rfl
theorem st_impl_nexts:symFn cx f_impl_nexts=some tr_impl_nexts:=by kernel_rfl
theorem st_impl_setOk:symFn cx f_impl_setOk=some tr_impl_setOk:=by kernel_rfl
theorem st_impl_marks:symFn cx f_impl_marks=some tr_impl_marks:=by kernel_rfl
theorem st_impl_listOf:symFn cx f_impl_listOf=some tr_impl_listOf:=by kernel_rfl
theorem st_impl_over:symFn cx f_impl_over=some tr_impl_over:=by kernel_rfl
theorem st_impl_FramesValid:symFn cx f_impl_FramesValid=some tr_impl_FramesValid:=by kernel_rfl
theorem st_spec_SetValid:symFn cx f_spec_SetValid=some tr_spec_SetValid:=by kernel_rfl
theorem st_spec_l4Behind:symFn cx f_spec_l4Behind=some tr_spec_l4Behind:=by kernel_rfl
theorem st_spec_NextNumbers:symFn cx f_spec_NextNumbers=some tr_spec_NextNumbers:=by kernel_rfl
theorem st_spec_FramesValid:symFn cx f_spec_FramesValid=some tr_spec_FramesValid:=by kernel_rfl
theorem st_impl_FixedFrame:symFn cx f_impl_FixedFrame=some tr_impl_FixedFrame:=by kernel_rfl
theorem st_math_bits_Mul32:symFn cx f_math_bits_Mul32=some tr_math_bits_Mul32:=by kernel_rfl
theorem st_math_bits_Mul64:symFn cx f_math_bits_Mul64=some tr_math_bits_Mul64:=by kernel_rfl
theorem st_math_bits_Mul:symFn cx f_math_bits_Mul=some tr_math_bits_Mul:=by kernel_rfl
theorem st_slices_Repeat_Sint_int:symFn cx f_slices_Repeat_Sint_int=some tr_slices_Repeat_Sint_int:=by kernel_rfl
theorem st_impl_steps:symFn cx f_impl_steps=some tr_impl_steps:=by kernel_rfl
theorem st_impl_StepsTo:symFn cx f_impl_StepsTo=some tr_impl_StepsTo:=by kernel_rfl
end Go.Proofs.YtlfinllnfggiiaaGreat
