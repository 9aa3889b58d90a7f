/- Each function comes to its tree; no condition. -/
import Derived.Test.YtdgpohclhppodaaGreatSmTab0
namespace Go.Proofs.YtdgpohclhppodaaGreat
open Go Go.Sm Go.Sm.Q
set_option maxRecDepth 100000
theorem st_spec_HoldsOnRun:symFn cx f_spec_HoldsOnRun=some tr_spec_HoldsOnRun:=by kernel_rfl
theorem st_impl_LettersOf:symFn cx f_impl_LettersOf=some tr_impl_LettersOf:=by kernel_rfl
theorem st_impl_bitsValid:symFn cx f_impl_bitsValid=some tr_impl_bitsValid:=by kernel_rfl
theorem st_impl_letterOk:symFn cx f_impl_letterOk=some tr_impl_letterOk:=by kernel_rfl
theorem st_impl_WordValid:symFn cx f_impl_WordValid=some tr_impl_WordValid:=by kernel_rfl
theorem st_impl_TimesOn:symFn cx f_impl_TimesOn=some tr_impl_TimesOn:=by kernel_rfl
theorem st_impl_HoldsOn:symFn cx f_impl_HoldsOn=some tr_impl_HoldsOn:=by kernel_rfl
theorem st_laws_FnHoldsOnRun:symFn cx f_laws_FnHoldsOnRun=some tr_laws_FnHoldsOnRun:=by kernel_rfl
end Go.Proofs.YtdgpohclhppodaaGreat
