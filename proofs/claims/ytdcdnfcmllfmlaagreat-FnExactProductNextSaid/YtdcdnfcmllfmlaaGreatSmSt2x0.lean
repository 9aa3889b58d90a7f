/- Each function comes to its tree; no condition. -/
import Derived.Test.YtdcdnfcmllfmlaaGreatSmTab0
namespace Go.Proofs.YtdcdnfcmllfmlaaGreat
open Go Go.Sm Go.Sm.Q
set_option maxRecDepth 100000
theorem st_impl_TimesValid : symFn cx f_impl_TimesValid = some tr_impl_TimesValid := by kernel_rfl
theorem st_impl_guessed : symFn cx f_impl_guessed = some tr_impl_guessed := by kernel_rfl
theorem st_impl_GuessCount : symFn cx f_impl_GuessCount = some tr_impl_GuessCount := by kernel_rfl
theorem st_impl_askTime : symFn cx f_impl_askTime = some tr_impl_askTime := by kernel_rfl
theorem st_impl_ProductSize : symFn cx f_impl_ProductSize = some tr_impl_ProductSize := by kernel_rfl
theorem st_impl_valueBits : symFn cx f_impl_valueBits = some tr_impl_valueBits := by kernel_rfl
theorem st_impl_truths : symFn cx f_impl_truths = some tr_impl_truths := by kernel_rfl
theorem st_impl_letters : symFn cx f_impl_letters = some tr_impl_letters := by kernel_rfl
theorem st_impl_bitsFor : symFn cx f_impl_bitsFor = some tr_impl_bitsFor := by kernel_rfl
theorem st_impl_GuessLetter : symFn cx f_impl_GuessLetter = some tr_impl_GuessLetter := by kernel_rfl
theorem st_impl_behindOk : symFn cx f_impl_behindOk = some tr_impl_behindOk := by kernel_rfl
theorem st_impl_followers : symFn cx f_impl_followers = some tr_impl_followers := by kernel_rfl
theorem st_impl_productOf : symFn cx f_impl_productOf = some tr_impl_productOf := by kernel_rfl
theorem st_impl_ProductNext : symFn cx f_impl_ProductNext = some tr_impl_ProductNext := by kernel_rfl
theorem st_spec_l6Value : symFn cx f_spec_l6Value = some tr_spec_l6Value := by kernel_rfl
theorem st_spec_l21Truths : symFn cx f_spec_l21Truths = some tr_spec_l21Truths := by kernel_rfl
theorem st_spec_l21At : symFn cx f_spec_l21At = some tr_spec_l21At := by kernel_rfl
theorem st_spec_l22Onward : symFn cx f_spec_l22Onward = some tr_spec_l22Onward := by kernel_rfl
theorem st_spec_l20Of : symFn cx f_spec_l20Of = some tr_spec_l20Of := by kernel_rfl
theorem st_spec_l6Many : symFn cx f_spec_l6Many = some tr_spec_l6Many := by kernel_rfl
theorem st_spec_l21Next : symFn cx f_spec_l21Next = some tr_spec_l21Next := by kernel_rfl
theorem st_spec_l22Row : symFn cx f_spec_l22Row = some tr_spec_l22Row := by kernel_rfl
theorem st_spec_l22Make : symFn cx f_spec_l22Make = some tr_spec_l22Make := by kernel_rfl
theorem st_spec_ProductNext : symFn cx f_spec_ProductNext = some tr_spec_ProductNext := by kernel_rfl
theorem st_laws_szVarS : symFn cx f_laws_szVarS = some tr_laws_szVarS := by kernel_rfl
theorem st_laws_szTermS : symFn cx f_laws_szTermS = some tr_laws_szTermS := by kernel_rfl
theorem st_laws_szIntS : symFn cx f_laws_szIntS = some tr_laws_szIntS := by kernel_rfl
theorem st_laws_szTermSS : symFn cx f_laws_szTermSS = some tr_laws_szTermSS := by kernel_rfl
theorem st_laws_szRule : symFn cx f_laws_szRule = some tr_laws_szRule := by kernel_rfl
theorem st_laws_szRuleS : symFn cx f_laws_szRuleS = some tr_laws_szRuleS := by kernel_rfl
end Go.Proofs.YtdcdnfcmllfmlaaGreat
