/- Each function comes to its tree; no condition. -/
import Derived.Test.YtdcdnfcmllfmlaaGreatSmTab0
namespace Go.Proofs.YtdcdnfcmllfmlaaGreat
open Go Go.Sm Go.Sm.Q
set_option maxRecDepth 100000
theorem st_spec_l1Values : symFn cx f_spec_l1Values = some tr_spec_l1Values := by kernel_rfl
theorem st_spec_l2Last : symFn cx f_spec_l2Last = some tr_spec_l2Last := by kernel_rfl
theorem st_spec_l2In : symFn cx f_spec_l2In = some tr_spec_l2In := by kernel_rfl
theorem st_spec_l2Use : symFn cx f_spec_l2Use = some tr_spec_l2Use := by kernel_rfl
theorem st_spec_l2Same : symFn cx f_spec_l2Same = some tr_spec_l2Same := by kernel_rfl
theorem st_spec_l2Less : symFn cx f_spec_l2Less = some tr_spec_l2Less := by kernel_rfl
theorem st_spec_l2Put : symFn cx f_spec_l2Put = some tr_spec_l2Put := by kernel_rfl
theorem st_spec_l2Next : symFn cx f_spec_l2Next = some tr_spec_l2Next := by kernel_rfl
theorem st_spec_l4Number : symFn cx f_spec_l4Number = some tr_spec_l4Number := by kernel_rfl
theorem st_spec_l4Steps : symFn cx f_spec_l4Steps = some tr_spec_l4Steps := by kernel_rfl
theorem st_laws_wcInts : symFn cx f_laws_wcInts = some tr_laws_wcInts := by kernel_rfl
theorem st_spec_l20Asked : symFn cx f_spec_l20Asked = some tr_spec_l20Asked := by kernel_rfl
theorem st_spec_l20One : symFn cx f_spec_l20One = some tr_spec_l20One := by kernel_rfl
theorem st_spec_l20Draw : symFn cx f_spec_l20Draw = some tr_spec_l20Draw := by kernel_rfl
theorem st_spec_l20Any : symFn cx f_spec_l20Any = some tr_spec_l20Any := by kernel_rfl
theorem st_spec_l22Draw : symFn cx f_spec_l22Draw = some tr_spec_l22Draw := by kernel_rfl
theorem st_spec_l20Facts : symFn cx f_spec_l20Facts = some tr_spec_l20Facts := by kernel_rfl
theorem st_spec_l20Step : symFn cx f_spec_l20Step = some tr_spec_l20Step := by kernel_rfl
theorem st_spec_TimesValid : symFn cx f_spec_TimesValid = some tr_spec_TimesValid := by kernel_rfl
theorem st_spec_l21Steps : symFn cx f_spec_l21Steps = some tr_spec_l21Steps := by kernel_rfl
theorem st_spec_l21Asked : symFn cx f_spec_l21Asked = some tr_spec_l21Asked := by kernel_rfl
theorem st_spec_l22Asked : symFn cx f_spec_l22Asked = some tr_spec_l22Asked := by kernel_rfl
theorem st_spec_GuessCount : symFn cx f_spec_GuessCount = some tr_spec_GuessCount := by kernel_rfl
theorem st_spec_ProductSize : symFn cx f_spec_ProductSize = some tr_spec_ProductSize := by kernel_rfl
theorem st_spec_DrawProductNext : symFn cx f_spec_DrawProductNext = some tr_spec_DrawProductNext := by kernel_rfl
theorem st_impl_factsOk : symFn cx f_impl_factsOk = some tr_impl_factsOk := by kernel_rfl
theorem st_impl_TimesValid : symFn cx f_impl_TimesValid = some tr_impl_TimesValid := by kernel_rfl
theorem st_impl_guessed : symFn cx f_impl_guessed = some tr_impl_guessed := by kernel_rfl
theorem st_impl_GuessCount : symFn cx f_impl_GuessCount = some tr_impl_GuessCount := by kernel_rfl
theorem st_impl_askTime : symFn cx f_impl_askTime = some tr_impl_askTime := by kernel_rfl
end Go.Proofs.YtdcdnfcmllfmlaaGreat
