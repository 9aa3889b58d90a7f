/- Each function comes to its tree; no condition. -/
import Derived.Test.YtdgpohclhppodaaGreatSmTab0
namespace Go.Proofs.YtdgpohclhppodaaGreat
open Go Go.Sm Go.Sm.Q
set_option maxRecDepth 100000
theorem st_spec_l20One:symFn cx f_spec_l20One=some tr_spec_l20One:=by kernel_rfl
theorem st_spec_l20Draw:symFn cx f_spec_l20Draw=some tr_spec_l20Draw:=by kernel_rfl
theorem st_spec_l20Any:symFn cx f_spec_l20Any=some tr_spec_l20Any:=by kernel_rfl
theorem st_spec_DrawHoldsOnRun:symFn cx f_spec_DrawHoldsOnRun=some tr_spec_DrawHoldsOnRun:=by kernel_rfl
theorem st_impl_factsOk:symFn cx f_impl_factsOk=some tr_impl_factsOk:=by kernel_rfl
theorem st_impl_lassoOk:symFn cx f_impl_lassoOk=some tr_impl_lassoOk:=by kernel_rfl
theorem st_slices_Concat_SSint_Sint:symFn cx f_slices_Concat_SSint_Sint=some tr_slices_Concat_SSint_Sint:=by kernel_rfl
theorem st_impl_usableIn:symFn cx f_impl_usableIn=some tr_impl_usableIn:=by kernel_rfl
theorem st_impl_follows:symFn cx f_impl_follows=some tr_impl_follows:=by kernel_rfl
theorem st_impl_LassoValid:symFn cx f_impl_LassoValid=some tr_impl_LassoValid:=by kernel_rfl
theorem st_impl_TimesValid:symFn cx f_impl_TimesValid=some tr_impl_TimesValid:=by kernel_rfl
theorem st_impl_letters:symFn cx f_impl_letters=some tr_impl_letters:=by kernel_rfl
theorem st_impl_word:symFn cx f_impl_word=some tr_impl_word:=by kernel_rfl
theorem st_impl_timesOn:symFn cx f_impl_timesOn=some tr_impl_timesOn:=by kernel_rfl
theorem st_impl_HoldsOnRun:symFn cx f_impl_HoldsOnRun=some tr_impl_HoldsOnRun:=by kernel_rfl
theorem st_spec_l20Facts:symFn cx f_spec_l20Facts=some tr_spec_l20Facts:=by kernel_rfl
theorem st_spec_l3At:symFn cx f_spec_l3At=some tr_spec_l3At:=by kernel_rfl
theorem st_spec_l3Follows:symFn cx f_spec_l3Follows=some tr_spec_l3Follows:=by kernel_rfl
theorem st_spec_LassoValid:symFn cx f_spec_LassoValid=some tr_spec_LassoValid:=by kernel_rfl
theorem st_spec_l20Of:symFn cx f_spec_l20Of=some tr_spec_l20Of:=by kernel_rfl
theorem st_spec_l20Step:symFn cx f_spec_l20Step=some tr_spec_l20Step:=by kernel_rfl
theorem st_spec_TimesValid:symFn cx f_spec_TimesValid=some tr_spec_TimesValid:=by kernel_rfl
theorem st_spec_l6Are:symFn cx f_spec_l6Are=some tr_spec_l6Are:=by kernel_rfl
theorem st_spec_l20Letters:symFn cx f_spec_l20Letters=some tr_spec_l20Letters:=by kernel_rfl
theorem st_spec_WordValid:symFn cx f_spec_WordValid=some tr_spec_WordValid:=by kernel_rfl
theorem st_spec_l20Next:symFn cx f_spec_l20Next=some tr_spec_l20Next:=by kernel_rfl
theorem st_spec_l20Later:symFn cx f_spec_l20Later=some tr_spec_l20Later:=by kernel_rfl
theorem st_spec_l20Row:symFn cx f_spec_l20Row=some tr_spec_l20Row:=by kernel_rfl
theorem st_spec_TimesOn:symFn cx f_spec_TimesOn=some tr_spec_TimesOn:=by kernel_rfl
theorem st_spec_HoldsOn:symFn cx f_spec_HoldsOn=some tr_spec_HoldsOn:=by kernel_rfl
end Go.Proofs.YtdgpohclhppodaaGreat
