/- Each function comes to its tree; no condition. -/
import Derived.Test.YtilmaoicaejbdaaGreatSmTab0
namespace Go.Proofs.YtilmaoicaejbdaaGreat
open Go Go.Sm Go.Sm.Q
set_option maxRecDepth 100000
theorem st_spec_KInductive : symFn cx f_spec_KInductive = some tr_spec_KInductive := by kernel_rfl
theorem st_spec_LeastInduction : symFn cx f_spec_LeastInduction = some tr_spec_LeastInduction := by kernel_rfl
theorem st_laws_FnLeastInduction : symFn cx f_laws_FnLeastInduction = some tr_laws_FnLeastInduction := by kernel_rfl
theorem st_laws_FnExactKInductive : symFn cx f_laws_FnExactKInductive = some tr_laws_FnExactKInductive := by kernel_rfl
theorem st_spec_DrawKInductive : symFn cx f_spec_DrawKInductive = some tr_spec_DrawKInductive := by kernel_rfl
theorem st_slices_Clone_Sint_int : symFn cx f_slices_Clone_Sint_int = some tr_slices_Clone_Sint_int := by kernel_rfl
theorem st_impl_reach : symFn cx f_impl_reach = some tr_impl_reach := by kernel_rfl
theorem st_impl_reachOf : symFn cx f_impl_reachOf = some tr_impl_reachOf := by kernel_rfl
theorem st_impl_always : symFn cx f_impl_always = some tr_impl_always := by kernel_rfl
theorem st_impl_Always : symFn cx f_impl_Always = some tr_impl_Always := by kernel_rfl
theorem st_laws_FnKInductive : symFn cx f_laws_FnKInductive = some tr_laws_FnKInductive := by kernel_rfl
theorem st_laws_FnExactLeastInduction : symFn cx f_laws_FnExactLeastInduction = some tr_laws_FnExactLeastInduction := by kernel_rfl
end Go.Proofs.YtilmaoicaejbdaaGreat
