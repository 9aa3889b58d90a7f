/- Each function comes to its tree; no condition. -/
import Derived.Test.YtmlicpnoccdcdaaGreatSmTab0
namespace Go.Proofs.YtmlicpnoccdcdaaGreat
open Go Go.Sm Go.Sm.Q
set_option maxRecDepth 100000
theorem st_impl_generalized : symFn cx f_impl_generalized = some tr_impl_generalized := by kernel_rfl
theorem st_impl_Generalized : symFn cx f_impl_Generalized = some tr_impl_Generalized := by kernel_rfl
theorem st_spec_l17Wide : symFn cx f_spec_l17Wide = some tr_spec_l17Wide := by kernel_rfl
theorem st_spec_Generalized : symFn cx f_spec_Generalized = some tr_spec_Generalized := by kernel_rfl
theorem st_laws_FnGeneralized : symFn cx f_laws_FnGeneralized = some tr_laws_FnGeneralized := by kernel_rfl
end Go.Proofs.YtmlicpnoccdcdaaGreat
