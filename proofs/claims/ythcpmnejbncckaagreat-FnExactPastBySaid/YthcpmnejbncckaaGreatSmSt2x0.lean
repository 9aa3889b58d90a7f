/- Each function comes to its tree; no condition. -/
import Derived.Test.YthcpmnejbncckaaGreatSmTab0
/- Printed by a program: the functions come to their trees. -/
namespace Go.Proofs.YthcpmnejbncckaaGreat
open Go Go.Sm Go.Sm.Q
set_option maxRecDepth 100000
theorem st_impl_clone_int : symFn cx f_impl_clone_int = some tr_impl_clone_int := by kernel_rfl
theorem st_impl_bitsOf : symFn cx f_impl_bitsOf = some tr_impl_bitsOf := by kernel_rfl
theorem st_impl_bitCount : symFn cx f_impl_bitCount = some tr_impl_bitCount := by kernel_rfl
theorem st_impl_halfNarrow : symFn cx f_impl_halfNarrow = some tr_impl_halfNarrow := by kernel_rfl
theorem st_impl_setOk : symFn cx f_impl_setOk = some tr_impl_setOk := by kernel_rfl
theorem st_impl_SetValid : symFn cx f_impl_SetValid = some tr_impl_SetValid := by kernel_rfl
theorem st_impl_stateAt : symFn cx f_impl_stateAt = some tr_impl_stateAt := by kernel_rfl
theorem st_impl_held : symFn cx f_impl_held = some tr_impl_held := by kernel_rfl
theorem st_impl_bit : symFn cx f_impl_bit = some tr_impl_bit := by kernel_rfl
theorem st_impl_do : symFn cx f_impl_do = some tr_impl_do := by kernel_rfl
theorem st_impl_eval : symFn cx f_impl_eval = some tr_impl_eval := by kernel_rfl
theorem st_impl_inRange : symFn cx f_impl_inRange = some tr_impl_inRange := by kernel_rfl
theorem st_impl_use : symFn cx f_impl_use = some tr_impl_use := by kernel_rfl
theorem st_cmp_isNaN_int : symFn cx f_cmp_isNaN_int = some tr_cmp_isNaN_int := by kernel_rfl
theorem st_cmp_Compare_int : symFn cx f_cmp_Compare_int = some tr_cmp_Compare_int := by kernel_rfl
theorem st_slices_Compare_Sint_int : symFn cx f_slices_Compare_Sint_int = some tr_slices_Compare_Sint_int := by kernel_rfl
theorem st_impl_clone_Sint : symFn cx f_impl_clone_Sint = some tr_impl_clone_Sint := by kernel_rfl
theorem st_impl_nextStates : symFn cx f_impl_nextStates = some tr_impl_nextStates := by kernel_rfl
theorem st_impl_number : symFn cx f_impl_number = some tr_impl_number := by kernel_rfl
theorem st_impl_nexts : symFn cx f_impl_nexts = some tr_impl_nexts := by kernel_rfl
theorem st_impl_listOf : symFn cx f_impl_listOf = some tr_impl_listOf := by kernel_rfl
theorem st_impl_over : symFn cx f_impl_over = some tr_impl_over := by kernel_rfl
theorem st_impl_NextNumbers : symFn cx f_impl_NextNumbers = some tr_impl_NextNumbers := by kernel_rfl
theorem st_impl_ImageBy : symFn cx f_impl_ImageBy = some tr_impl_ImageBy := by kernel_rfl
theorem st_laws_eqIntS : symFn cx f_laws_eqIntS = some tr_laws_eqIntS := by kernel_rfl
theorem st_laws_eqVar : symFn cx f_laws_eqVar = some tr_laws_eqVar := by kernel_rfl
theorem st_laws_eqVarS : symFn cx f_laws_eqVarS = some tr_laws_eqVarS := by kernel_rfl
theorem st_laws_eqTerm : symFn cx f_laws_eqTerm = some tr_laws_eqTerm := by kernel_rfl
theorem st_laws_eqTermS : symFn cx f_laws_eqTermS = some tr_laws_eqTermS := by kernel_rfl
theorem st_laws_eqTermSS : symFn cx f_laws_eqTermSS = some tr_laws_eqTermSS := by kernel_rfl
end Go.Proofs.YthcpmnejbncckaaGreat
