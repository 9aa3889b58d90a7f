/- Each function comes to its tree; no condition. -/
import Derived.Test.YtifkpliahhodoaaGreatSmTab0
namespace Go.Proofs.YtifkpliahhodoaaGreat
open Go Go.Sm Go.Sm.Q
set_option maxRecDepth 100000
theorem st_spec_l2Has : symFn cx f_spec_l2Has = some tr_spec_l2Has := by kernel_rfl
theorem st_spec_HoldsTree : symFn cx f_spec_HoldsTree = some tr_spec_HoldsTree := by kernel_rfl
theorem st_impl_first : symFn cx f_impl_first = some tr_impl_first := by kernel_rfl
theorem st_slices_Index_Sint_int : symFn cx f_slices_Index_Sint_int = some tr_slices_Index_Sint_int := by kernel_rfl
theorem st_slices_Contains_Sint_int : symFn cx f_slices_Contains_Sint_int = some tr_slices_Contains_Sint_int := by kernel_rfl
theorem st_impl_HoldsTree : symFn cx f_impl_HoldsTree = some tr_impl_HoldsTree := by kernel_rfl
theorem st_laws_FnExactHoldsTree : symFn cx f_laws_FnExactHoldsTree = some tr_laws_FnExactHoldsTree := by kernel_rfl
end Go.Proofs.YtifkpliahhodoaaGreat
