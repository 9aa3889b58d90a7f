/- Each function comes to its tree; no condition. -/
import Derived.Test.YtmlicpnoccdcdaaGreatSmTab0
namespace Go.Proofs.YtmlicpnoccdcdaaGreat
open Go Go.Sm Go.Sm.Q
set_option maxRecDepth 100000
theorem st_spec_BitsOf : symFn cx f_spec_BitsOf = some tr_spec_BitsOf := by kernel_rfl
theorem st_spec_l16Some : symFn cx f_spec_l16Some = some tr_spec_l16Some := by kernel_rfl
theorem st_spec_l6Value : symFn cx f_spec_l6Value = some tr_spec_l6Value := by kernel_rfl
theorem st_spec_l6State : symFn cx f_spec_l6State = some tr_spec_l6State := by kernel_rfl
theorem st_spec_l16Draw : symFn cx f_spec_l16Draw = some tr_spec_l16Draw := by kernel_rfl
theorem st_spec_CubeValid : symFn cx f_spec_CubeValid = some tr_spec_CubeValid := by kernel_rfl
theorem st_spec_l16Cube : symFn cx f_spec_l16Cube = some tr_spec_l16Cube := by kernel_rfl
theorem st_spec_l16Has : symFn cx f_spec_l16Has = some tr_spec_l16Has := by kernel_rfl
theorem st_spec_l16States : symFn cx f_spec_l16States = some tr_spec_l16States := by kernel_rfl
theorem st_spec_CubeStates : symFn cx f_spec_CubeStates = some tr_spec_CubeStates := by kernel_rfl
theorem st_spec_DrawWidened : symFn cx f_spec_DrawWidened = some tr_spec_DrawWidened := by kernel_rfl
theorem st_spec_DrawBlockedBy : symFn cx f_spec_DrawBlockedBy = some tr_spec_DrawBlockedBy := by kernel_rfl
theorem st_impl_CubeValid : symFn cx f_impl_CubeValid = some tr_impl_CubeValid := by kernel_rfl
theorem st_impl_valueBits : symFn cx f_impl_valueBits = some tr_impl_valueBits := by kernel_rfl
theorem st_impl_stateBits : symFn cx f_impl_stateBits = some tr_impl_stateBits := by kernel_rfl
theorem st_impl_cubeHas : symFn cx f_impl_cubeHas = some tr_impl_cubeHas := by kernel_rfl
theorem st_impl_cubeStates : symFn cx f_impl_cubeStates = some tr_impl_cubeStates := by kernel_rfl
theorem st_impl_blockedBy : symFn cx f_impl_blockedBy = some tr_impl_blockedBy := by kernel_rfl
theorem st_impl_BlockedBy : symFn cx f_impl_BlockedBy = some tr_impl_BlockedBy := by kernel_rfl
theorem st_spec_l17Ordered : symFn cx f_spec_l17Ordered = some tr_spec_l17Ordered := by kernel_rfl
theorem st_spec_l17Blocked : symFn cx f_spec_l17Blocked = some tr_spec_l17Blocked := by kernel_rfl
theorem st_spec_BlockedBy : symFn cx f_spec_BlockedBy = some tr_spec_BlockedBy := by kernel_rfl
theorem st_impl_CubeStates : symFn cx f_impl_CubeStates = some tr_impl_CubeStates := by kernel_rfl
theorem st_impl_NextNumbers : symFn cx f_impl_NextNumbers = some tr_impl_NextNumbers := by kernel_rfl
theorem st_impl_FirstState : symFn cx f_impl_FirstState = some tr_impl_FirstState := by kernel_rfl
theorem st_impl_InRange : symFn cx f_impl_InRange = some tr_impl_InRange := by kernel_rfl
theorem st_impl_NumberOf : symFn cx f_impl_NumberOf = some tr_impl_NumberOf := by kernel_rfl
theorem st_laws_wcHas : symFn cx f_laws_wcHas = some tr_laws_wcHas := by kernel_rfl
theorem st_laws_FnBlockedBy : symFn cx f_laws_FnBlockedBy = some tr_laws_FnBlockedBy := by kernel_rfl
theorem st_spec_DrawGeneralized : symFn cx f_spec_DrawGeneralized = some tr_spec_DrawGeneralized := by kernel_rfl
end Go.Proofs.YtmlicpnoccdcdaaGreat
