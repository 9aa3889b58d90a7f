/- Each function comes to its tree; no condition. -/
import Derived.Test.YtplibobhcjgcmaaGreatSmTab0
namespace Go.Proofs.YtplibobhcjgcmaaGreat
open Go Go.Sm Go.Sm.Q
set_option maxRecDepth 100000
theorem st_impl_ProductFirst : symFn cx f_impl_ProductFirst = some tr_impl_ProductFirst := by kernel_rfl
theorem st_laws_eqTime : symFn cx f_laws_eqTime = some tr_laws_eqTime := by kernel_rfl
theorem st_laws_eqTimeS : symFn cx f_laws_eqTimeS = some tr_laws_eqTimeS := by kernel_rfl
theorem st_laws_markTimeS : symFn cx f_laws_markTimeS = some tr_laws_markTimeS := by kernel_rfl
theorem st_laws_FnExactProductFirst : symFn cx f_laws_FnExactProductFirst = some tr_laws_FnExactProductFirst := by kernel_rfl
end Go.Proofs.YtplibobhcjgcmaaGreat
