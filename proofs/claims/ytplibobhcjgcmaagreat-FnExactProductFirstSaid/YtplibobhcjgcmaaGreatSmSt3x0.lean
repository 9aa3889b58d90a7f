/- Each function comes to its tree; no condition. -/
import Derived.Test.YtplibobhcjgcmaaGreatSmTab0
namespace Go.Proofs.YtplibobhcjgcmaaGreat
open Go Go.Sm Go.Sm.Q
set_option maxRecDepth 100000
theorem st_impl_letters : symFn cx f_impl_letters = some tr_impl_letters := by kernel_rfl
theorem st_impl_followers : symFn cx f_impl_followers = some tr_impl_followers := by kernel_rfl
theorem st_laws_szTimeS : symFn cx f_laws_szTimeS = some tr_laws_szTimeS := by kernel_rfl
theorem st_laws_toTime : symFn cx f_laws_toTime = some tr_laws_toTime := by kernel_rfl
theorem st_laws_toTimeS : symFn cx f_laws_toTimeS = some tr_laws_toTimeS := by kernel_rfl
theorem st_spec_l20One : symFn cx f_spec_l20One = some tr_spec_l20One := by kernel_rfl
theorem st_spec_l20Step : symFn cx f_spec_l20Step = some tr_spec_l20Step := by kernel_rfl
theorem st_spec_TimesValid : symFn cx f_spec_TimesValid = some tr_spec_TimesValid := by kernel_rfl
theorem st_spec_l21Steps : symFn cx f_spec_l21Steps = some tr_spec_l21Steps := by kernel_rfl
theorem st_spec_l21Asked : symFn cx f_spec_l21Asked = some tr_spec_l21Asked := by kernel_rfl
theorem st_spec_l22Asked : symFn cx f_spec_l22Asked = some tr_spec_l22Asked := by kernel_rfl
theorem st_spec_GuessCount : symFn cx f_spec_GuessCount = some tr_spec_GuessCount := by kernel_rfl
theorem st_spec_l6Value : symFn cx f_spec_l6Value = some tr_spec_l6Value := by kernel_rfl
theorem st_spec_l21Truths : symFn cx f_spec_l21Truths = some tr_spec_l21Truths := by kernel_rfl
theorem st_spec_l21At : symFn cx f_spec_l21At = some tr_spec_l21At := by kernel_rfl
theorem st_spec_l21Next : symFn cx f_spec_l21Next = some tr_spec_l21Next := by kernel_rfl
theorem st_spec_l22Row : symFn cx f_spec_l22Row = some tr_spec_l22Row := by kernel_rfl
theorem st_spec_l22Make : symFn cx f_spec_l22Make = some tr_spec_l22Make := by kernel_rfl
theorem st_spec_l22First : symFn cx f_spec_l22First = some tr_spec_l22First := by kernel_rfl
theorem st_spec_ProductFirst : symFn cx f_spec_ProductFirst = some tr_spec_ProductFirst := by kernel_rfl
theorem st_impl_TimesValid : symFn cx f_impl_TimesValid = some tr_impl_TimesValid := by kernel_rfl
theorem st_impl_guessed : symFn cx f_impl_guessed = some tr_impl_guessed := by kernel_rfl
theorem st_impl_GuessCount : symFn cx f_impl_GuessCount = some tr_impl_GuessCount := by kernel_rfl
theorem st_impl_askTime : symFn cx f_impl_askTime = some tr_impl_askTime := by kernel_rfl
theorem st_impl_valueBits : symFn cx f_impl_valueBits = some tr_impl_valueBits := by kernel_rfl
theorem st_impl_truths : symFn cx f_impl_truths = some tr_impl_truths := by kernel_rfl
theorem st_impl_GuessLetter : symFn cx f_impl_GuessLetter = some tr_impl_GuessLetter := by kernel_rfl
theorem st_impl_behindOk : symFn cx f_impl_behindOk = some tr_impl_behindOk := by kernel_rfl
theorem st_impl_productOf : symFn cx f_impl_productOf = some tr_impl_productOf := by kernel_rfl
theorem st_impl_product_first : symFn cx f_impl_product_first = some tr_impl_product_first := by kernel_rfl
end Go.Proofs.YtplibobhcjgcmaaGreat
