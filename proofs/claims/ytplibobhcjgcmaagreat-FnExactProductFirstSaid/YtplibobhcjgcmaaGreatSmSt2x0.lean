/- Each function comes to its tree; no condition. -/
import Derived.Test.YtplibobhcjgcmaaGreatSmTab0
namespace Go.Proofs.YtplibobhcjgcmaaGreat
open Go Go.Sm Go.Sm.Q
set_option maxRecDepth 100000
theorem st_slices_Reverse_SSint_Sint : symFn cx f_slices_Reverse_SSint_Sint = some tr_slices_Reverse_SSint_Sint := by kernel_rfl
theorem st_impl_clone_Sint : symFn cx f_impl_clone_Sint = some tr_impl_clone_Sint := by kernel_rfl
theorem st_impl_nextStates : symFn cx f_impl_nextStates = some tr_impl_nextStates := by kernel_rfl
theorem st_impl_number : symFn cx f_impl_number = some tr_impl_number := by kernel_rfl
theorem st_impl_nexts : symFn cx f_impl_nexts = some tr_impl_nexts := by kernel_rfl
theorem st_laws_eqIntS : symFn cx f_laws_eqIntS = some tr_laws_eqIntS := by kernel_rfl
theorem st_laws_eqVar : symFn cx f_laws_eqVar = some tr_laws_eqVar := by kernel_rfl
theorem st_laws_eqVarS : symFn cx f_laws_eqVarS = some tr_laws_eqVarS := by kernel_rfl
theorem st_laws_eqTerm : symFn cx f_laws_eqTerm = some tr_laws_eqTerm := by kernel_rfl
theorem st_laws_eqTermS : symFn cx f_laws_eqTermS = some tr_laws_eqTermS := by kernel_rfl
theorem st_laws_eqTermSS : symFn cx f_laws_eqTermSS = some tr_laws_eqTermSS := by kernel_rfl
theorem st_laws_eqRule : symFn cx f_laws_eqRule = some tr_laws_eqRule := by kernel_rfl
theorem st_laws_eqRuleS : symFn cx f_laws_eqRuleS = some tr_laws_eqRuleS := by kernel_rfl
theorem st_laws_eqSystem : symFn cx f_laws_eqSystem = some tr_laws_eqSystem := by kernel_rfl
theorem st_laws_markVarS : symFn cx f_laws_markVarS = some tr_laws_markVarS := by kernel_rfl
theorem st_laws_markTermS : symFn cx f_laws_markTermS = some tr_laws_markTermS := by kernel_rfl
theorem st_laws_markIntS : symFn cx f_laws_markIntS = some tr_laws_markIntS := by kernel_rfl
theorem st_laws_markTermSS : symFn cx f_laws_markTermSS = some tr_laws_markTermSS := by kernel_rfl
theorem st_laws_markRuleS : symFn cx f_laws_markRuleS = some tr_laws_markRuleS := by kernel_rfl
theorem st_laws_markSystem : symFn cx f_laws_markSystem = some tr_laws_markSystem := by kernel_rfl
theorem st_laws_heldIntS : symFn cx f_laws_heldIntS = some tr_laws_heldIntS := by kernel_rfl
theorem st_spec_l6Many : symFn cx f_spec_l6Many = some tr_spec_l6Many := by kernel_rfl
theorem st_spec_l4List : symFn cx f_spec_l4List = some tr_spec_l4List := by kernel_rfl
theorem st_impl_bitsFor : symFn cx f_impl_bitsFor = some tr_impl_bitsFor := by kernel_rfl
theorem st_impl_first : symFn cx f_impl_first = some tr_impl_first := by kernel_rfl
theorem st_slices_Equal_Sint_int : symFn cx f_slices_Equal_Sint_int = some tr_slices_Equal_Sint_int := by kernel_rfl
theorem st_spec_l20Facts : symFn cx f_spec_l20Facts = some tr_spec_l20Facts := by kernel_rfl
theorem st_spec_l22Onward : symFn cx f_spec_l22Onward = some tr_spec_l22Onward := by kernel_rfl
theorem st_spec_l20Of : symFn cx f_spec_l20Of = some tr_spec_l20Of := by kernel_rfl
theorem st_impl_factsOk : symFn cx f_impl_factsOk = some tr_impl_factsOk := by kernel_rfl
end Go.Proofs.YtplibobhcjgcmaaGreat
