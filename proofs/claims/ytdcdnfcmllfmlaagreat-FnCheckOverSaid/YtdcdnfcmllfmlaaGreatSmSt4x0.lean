/- Each function comes to its tree; no condition. -/
import Derived.Test.YtdcdnfcmllfmlaaGreatSmTab0
namespace Go.Proofs.YtdcdnfcmllfmlaaGreat
open Go Go.Sm Go.Sm.Q
set_option maxRecDepth 100000
theorem st_impl_goodIn:symFn cx f_impl_goodIn=some tr_impl_goodIn:=by kernel_rfl
theorem st_impl_within:symFn cx f_impl_within=some tr_impl_within:=by kernel_rfl
theorem st_impl_bitsOf:symFn cx f_impl_bitsOf=some tr_impl_bitsOf:=by kernel_rfl
theorem st_impl_stateBits:symFn cx f_impl_stateBits=some tr_impl_stateBits:=by kernel_rfl
theorem st_impl_allBits:symFn cx f_impl_allBits=some tr_impl_allBits:=by kernel_rfl
theorem st_impl_cubeHas:symFn cx f_impl_cubeHas=some tr_impl_cubeHas:=by kernel_rfl
theorem st_impl_cubesOf:symFn cx f_impl_cubesOf=some tr_impl_cubesOf:=by kernel_rfl
theorem st_impl_cubeStates:symFn cx f_impl_cubeStates=some tr_impl_cubeStates:=by kernel_rfl
theorem st_impl_around:symFn cx f_impl_around=some tr_impl_around:=by kernel_rfl
theorem st_impl_CheckOver:symFn cx f_impl_CheckOver=some tr_impl_CheckOver:=by kernel_rfl
theorem st_spec_l14Range:symFn cx f_spec_l14Range=some tr_spec_l14Range:=by kernel_rfl
theorem st_spec_l4Ahead:symFn cx f_spec_l4Ahead=some tr_spec_l4Ahead:=by kernel_rfl
theorem st_spec_l19Back:symFn cx f_spec_l19Back=some tr_spec_l19Back:=by kernel_rfl
theorem st_spec_l17Way:symFn cx f_spec_l17Way=some tr_spec_l17Way:=by kernel_rfl
theorem st_spec_l19Way:symFn cx f_spec_l19Way=some tr_spec_l19Way:=by kernel_rfl
theorem st_spec_l4Behind:symFn cx f_spec_l4Behind=some tr_spec_l4Behind:=by kernel_rfl
theorem st_spec_SetBoth:symFn cx f_spec_SetBoth=some tr_spec_SetBoth:=by kernel_rfl
theorem st_spec_l6Widths:symFn cx f_spec_l6Widths=some tr_spec_l6Widths:=by kernel_rfl
theorem st_spec_l6State:symFn cx f_spec_l6State=some tr_spec_l6State:=by kernel_rfl
theorem st_spec_l16Has:symFn cx f_spec_l16Has=some tr_spec_l16Has:=by kernel_rfl
theorem st_spec_l16States:symFn cx f_spec_l16States=some tr_spec_l16States:=by kernel_rfl
theorem st_spec_l16Wide:symFn cx f_spec_l16Wide=some tr_spec_l16Wide:=by kernel_rfl
theorem st_spec_SetEither:symFn cx f_spec_SetEither=some tr_spec_SetEither:=by kernel_rfl
theorem st_spec_l19Around:symFn cx f_spec_l19Around=some tr_spec_l19Around:=by kernel_rfl
theorem st_spec_l19Round:symFn cx f_spec_l19Round=some tr_spec_l19Round:=by kernel_rfl
theorem st_spec_CheckOver:symFn cx f_spec_CheckOver=some tr_spec_CheckOver:=by kernel_rfl
theorem st_laws_FnCheckOver:symFn cx f_laws_FnCheckOver=some tr_laws_FnCheckOver:=by kernel_rfl
end Go.Proofs.YtdcdnfcmllfmlaaGreat
