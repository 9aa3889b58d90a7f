/- Each function comes to its tree; no condition. -/
import Derived.Test.YtinfckfdphemiaaGreatSmTab0
/- Printed by a program: the functions come to their trees. -/
namespace Go.Proofs.YtinfckfdphemiaaGreat
open Go Go.Sm Go.Sm.Q
set_option maxRecDepth 100000
theorem st_laws_eqSystem : symFn cx f_laws_eqSystem = some tr_laws_eqSystem := by kernel_rfl
theorem st_spec_SizeOf : symFn cx f_spec_SizeOf = some tr_spec_SizeOf := by kernel_rfl
theorem st_spec_l3Copy : symFn cx f_spec_l3Copy = some tr_spec_l3Copy := by kernel_rfl
theorem st_spec_l4State : symFn cx f_spec_l4State = some tr_spec_l4State := by kernel_rfl
theorem st_spec_l4Number : symFn cx f_spec_l4Number = some tr_spec_l4Number := by kernel_rfl
theorem st_spec_l4Steps : symFn cx f_spec_l4Steps = some tr_spec_l4Steps := by kernel_rfl
theorem st_spec_l4Marks : symFn cx f_spec_l4Marks = some tr_spec_l4Marks := by kernel_rfl
theorem st_spec_l4List : symFn cx f_spec_l4List = some tr_spec_l4List := by kernel_rfl
theorem st_impl_stateAt : symFn cx f_impl_stateAt = some tr_impl_stateAt := by kernel_rfl
theorem st_cmp_isNaN_int : symFn cx f_cmp_isNaN_int = some tr_cmp_isNaN_int := by kernel_rfl
theorem st_cmp_Compare_int : symFn cx f_cmp_Compare_int = some tr_cmp_Compare_int := by kernel_rfl
theorem st_slices_Compare_Sint_int : symFn cx f_slices_Compare_Sint_int = some tr_slices_Compare_Sint_int := by kernel_rfl
theorem st_impl_clone_Sint : symFn cx f_impl_clone_Sint = some tr_impl_clone_Sint := by kernel_rfl
theorem st_impl_nextStates : symFn cx f_impl_nextStates = some tr_impl_nextStates := by kernel_rfl
theorem st_impl_number : symFn cx f_impl_number = some tr_impl_number := by kernel_rfl
theorem st_impl_nexts : symFn cx f_impl_nexts = some tr_impl_nexts := by kernel_rfl
theorem st_impl_bitsFor : symFn cx f_impl_bitsFor = some tr_impl_bitsFor := by kernel_rfl
theorem st_impl_bitsOf : symFn cx f_impl_bitsOf = some tr_impl_bitsOf := by kernel_rfl
theorem st_impl_bitCount : symFn cx f_impl_bitCount = some tr_impl_bitCount := by kernel_rfl
theorem st_impl_halfNarrow : symFn cx f_impl_halfNarrow = some tr_impl_halfNarrow := by kernel_rfl
theorem st_impl_truthOf : symFn cx f_impl_truthOf = some tr_impl_truthOf := by kernel_rfl
theorem st_slices_Clone_Sint_int : symFn cx f_slices_Clone_Sint_int = some tr_slices_Clone_Sint_int := by kernel_rfl
theorem st_impl_reach : symFn cx f_impl_reach = some tr_impl_reach := by kernel_rfl
theorem st_impl_reachOf : symFn cx f_impl_reachOf = some tr_impl_reachOf := by kernel_rfl
theorem st_impl_where : symFn cx f_impl_where = some tr_impl_where := by kernel_rfl
theorem st_impl_always : symFn cx f_impl_always = some tr_impl_always := by kernel_rfl
theorem st_impl_Always : symFn cx f_impl_Always = some tr_impl_Always := by kernel_rfl
theorem st_impl_AlwaysBy : symFn cx f_impl_AlwaysBy = some tr_impl_AlwaysBy := by kernel_rfl
theorem st_spec_l6Many : symFn cx f_spec_l6Many = some tr_spec_l6Many := by kernel_rfl
theorem st_spec_l6Widths : symFn cx f_spec_l6Widths = some tr_spec_l6Widths := by kernel_rfl
end Go.Proofs.YtinfckfdphemiaaGreat
