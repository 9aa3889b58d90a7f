/- Each function comes to its tree; no condition. -/
import Derived.Test.YtdcdnfcmllfmlaaGreatSmTab0
namespace Go.Proofs.YtdcdnfcmllfmlaaGreat
open Go Go.Sm Go.Sm.Q
set_option maxRecDepth 100000
theorem st_impl_ProductSize : symFn cx f_impl_ProductSize = some tr_impl_ProductSize := by kernel_rfl
theorem st_impl_valueBits : symFn cx f_impl_valueBits = some tr_impl_valueBits := by kernel_rfl
theorem st_impl_truths : symFn cx f_impl_truths = some tr_impl_truths := by kernel_rfl
theorem st_impl_letters : symFn cx f_impl_letters = some tr_impl_letters := by kernel_rfl
theorem st_impl_bitsFor : symFn cx f_impl_bitsFor = some tr_impl_bitsFor := by kernel_rfl
theorem st_impl_GuessLetter : symFn cx f_impl_GuessLetter = some tr_impl_GuessLetter := by kernel_rfl
theorem st_impl_behindOk : symFn cx f_impl_behindOk = some tr_impl_behindOk := by kernel_rfl
theorem st_impl_followers : symFn cx f_impl_followers = some tr_impl_followers := by kernel_rfl
theorem st_impl_productOf : symFn cx f_impl_productOf = some tr_impl_productOf := by kernel_rfl
theorem st_impl_ProductNext : symFn cx f_impl_ProductNext = some tr_impl_ProductNext := by kernel_rfl
theorem st_spec_l6Value : symFn cx f_spec_l6Value = some tr_spec_l6Value := by kernel_rfl
theorem st_spec_l21Truths : symFn cx f_spec_l21Truths = some tr_spec_l21Truths := by kernel_rfl
theorem st_spec_l21At : symFn cx f_spec_l21At = some tr_spec_l21At := by kernel_rfl
theorem st_spec_l22Onward : symFn cx f_spec_l22Onward = some tr_spec_l22Onward := by kernel_rfl
theorem st_spec_l20Of : symFn cx f_spec_l20Of = some tr_spec_l20Of := by kernel_rfl
theorem st_spec_l6Many : symFn cx f_spec_l6Many = some tr_spec_l6Many := by kernel_rfl
theorem st_spec_l21Next : symFn cx f_spec_l21Next = some tr_spec_l21Next := by kernel_rfl
theorem st_spec_l22Row : symFn cx f_spec_l22Row = some tr_spec_l22Row := by kernel_rfl
theorem st_spec_l22Make : symFn cx f_spec_l22Make = some tr_spec_l22Make := by kernel_rfl
theorem st_spec_ProductNext : symFn cx f_spec_ProductNext = some tr_spec_ProductNext := by kernel_rfl
theorem st_impl_SizeOf : symFn cx f_impl_SizeOf = some tr_impl_SizeOf := by kernel_rfl
theorem st_impl_StateAt : symFn cx f_impl_StateAt = some tr_impl_StateAt := by kernel_rfl
theorem st_impl_usableIn : symFn cx f_impl_usableIn = some tr_impl_usableIn := by kernel_rfl
theorem st_impl_follows : symFn cx f_impl_follows = some tr_impl_follows := by kernel_rfl
theorem st_impl_Follows : symFn cx f_impl_Follows = some tr_impl_Follows := by kernel_rfl
theorem st_impl_GuessNext : symFn cx f_impl_GuessNext = some tr_impl_GuessNext := by kernel_rfl
theorem st_impl_LettersOf : symFn cx f_impl_LettersOf = some tr_impl_LettersOf := by kernel_rfl
theorem st_laws_FnProductNext : symFn cx f_laws_FnProductNext = some tr_laws_FnProductNext := by kernel_rfl
end Go.Proofs.YtdcdnfcmllfmlaaGreat
