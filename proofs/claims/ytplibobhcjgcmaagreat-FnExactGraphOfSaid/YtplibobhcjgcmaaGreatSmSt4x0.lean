/- Each function comes to its tree; no condition. -/
import Derived.Test.YtplibobhcjgcmaaGreatSmTab0
namespace Go.Proofs.YtplibobhcjgcmaaGreat
open Go Go.Sm Go.Sm.Q
set_option maxRecDepth 100000
theorem st_impl_letters : symFn cx f_impl_letters = some tr_impl_letters := by kernel_rfl
theorem st_impl_lettersAll : symFn cx f_impl_lettersAll = some tr_impl_lettersAll := by kernel_rfl
theorem st_impl_followers : symFn cx f_impl_followers = some tr_impl_followers := by kernel_rfl
theorem st_impl_graphOf : symFn cx f_impl_graphOf = some tr_impl_graphOf := by kernel_rfl
theorem st_impl_GraphOf : symFn cx f_impl_GraphOf = some tr_impl_GraphOf := by kernel_rfl
theorem st_laws_eqGraph : symFn cx f_laws_eqGraph = some tr_laws_eqGraph := by kernel_rfl
theorem st_laws_markGraph : symFn cx f_laws_markGraph = some tr_laws_markGraph := by kernel_rfl
theorem st_laws_heldGraph : symFn cx f_laws_heldGraph = some tr_laws_heldGraph := by kernel_rfl
theorem st_laws_FnExactGraphOf : symFn cx f_laws_FnExactGraphOf = some tr_laws_FnExactGraphOf := by kernel_rfl
end Go.Proofs.YtplibobhcjgcmaaGreat
