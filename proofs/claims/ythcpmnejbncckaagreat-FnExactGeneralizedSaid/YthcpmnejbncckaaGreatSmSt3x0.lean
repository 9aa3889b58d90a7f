/- Each function comes to its tree; no condition. -/
import Derived.Test.YthcpmnejbncckaaGreatSmTab0
/- Printed by a program: the functions come to their trees. -/
namespace Go.Proofs.YthcpmnejbncckaaGreat
open Go Go.Sm Go.Sm.Q
set_option maxRecDepth 100000
theorem st_laws_markSystem : symFn cx f_laws_markSystem = some tr_laws_markSystem := by kernel_rfl
theorem st_laws_heldIntS : symFn cx f_laws_heldIntS = some tr_laws_heldIntS := by kernel_rfl
theorem st_spec_l2Has : symFn cx f_spec_l2Has = some tr_spec_l2Has := by kernel_rfl
theorem st_impl_marks : symFn cx f_impl_marks = some tr_impl_marks := by kernel_rfl
theorem st_spec_CubeValid : symFn cx f_spec_CubeValid = some tr_spec_CubeValid := by kernel_rfl
theorem st_spec_l16Cube : symFn cx f_spec_l16Cube = some tr_spec_l16Cube := by kernel_rfl
theorem st_spec_l6Value : symFn cx f_spec_l6Value = some tr_spec_l6Value := by kernel_rfl
theorem st_spec_l6State : symFn cx f_spec_l6State = some tr_spec_l6State := by kernel_rfl
theorem st_spec_l16Has : symFn cx f_spec_l16Has = some tr_spec_l16Has := by kernel_rfl
theorem st_spec_l16States : symFn cx f_spec_l16States = some tr_spec_l16States := by kernel_rfl
theorem st_spec_l4Set : symFn cx f_spec_l4Set = some tr_spec_l4Set := by kernel_rfl
theorem st_spec_l4Mix : symFn cx f_spec_l4Mix = some tr_spec_l4Mix := by kernel_rfl
theorem st_spec_SetWithout : symFn cx f_spec_SetWithout = some tr_spec_SetWithout := by kernel_rfl
theorem st_spec_l17Ordered : symFn cx f_spec_l17Ordered = some tr_spec_l17Ordered := by kernel_rfl
theorem st_spec_SetBoth : symFn cx f_spec_SetBoth = some tr_spec_SetBoth := by kernel_rfl
theorem st_spec_l17Blocked : symFn cx f_spec_l17Blocked = some tr_spec_l17Blocked := by kernel_rfl
theorem st_spec_BlockedBy : symFn cx f_spec_BlockedBy = some tr_spec_BlockedBy := by kernel_rfl
theorem st_impl_CubeValid : symFn cx f_impl_CubeValid = some tr_impl_CubeValid := by kernel_rfl
theorem st_impl_valueBits : symFn cx f_impl_valueBits = some tr_impl_valueBits := by kernel_rfl
theorem st_impl_stateBits : symFn cx f_impl_stateBits = some tr_impl_stateBits := by kernel_rfl
theorem st_impl_cubeHas : symFn cx f_impl_cubeHas = some tr_impl_cubeHas := by kernel_rfl
theorem st_impl_cubeStates : symFn cx f_impl_cubeStates = some tr_impl_cubeStates := by kernel_rfl
theorem st_impl_first : symFn cx f_impl_first = some tr_impl_first := by kernel_rfl
theorem st_impl_blockedBy : symFn cx f_impl_blockedBy = some tr_impl_blockedBy := by kernel_rfl
theorem st_impl_BlockedBy : symFn cx f_impl_BlockedBy = some tr_impl_BlockedBy := by kernel_rfl
theorem st_laws_FnExactBlockedBy : symFn cx f_laws_FnExactBlockedBy = some tr_laws_FnExactBlockedBy := by kernel_rfl
theorem st_spec_l17Wide : symFn cx f_spec_l17Wide = some tr_spec_l17Wide := by kernel_rfl
theorem st_spec_Generalized : symFn cx f_spec_Generalized = some tr_spec_Generalized := by kernel_rfl
theorem st_impl_generalized : symFn cx f_impl_generalized = some tr_impl_generalized := by kernel_rfl
theorem st_impl_Generalized : symFn cx f_impl_Generalized = some tr_impl_Generalized := by kernel_rfl
end Go.Proofs.YthcpmnejbncckaaGreat
