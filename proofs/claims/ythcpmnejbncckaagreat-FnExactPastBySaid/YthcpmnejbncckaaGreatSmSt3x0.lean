/- Each function comes to its tree; no condition. -/
import Derived.Test.YthcpmnejbncckaaGreatSmTab0
/- Printed by a program: the functions come to their trees. -/
namespace Go.Proofs.YthcpmnejbncckaaGreat
open Go Go.Sm Go.Sm.Q
set_option maxRecDepth 100000
theorem st_laws_eqRule : symFn cx f_laws_eqRule = some tr_laws_eqRule := by kernel_rfl
theorem st_laws_eqRuleS : symFn cx f_laws_eqRuleS = some tr_laws_eqRuleS := by kernel_rfl
theorem st_laws_eqSystem : symFn cx f_laws_eqSystem = some tr_laws_eqSystem := by kernel_rfl
theorem st_laws_markVarS : symFn cx f_laws_markVarS = some tr_laws_markVarS := by kernel_rfl
theorem st_laws_markTermS : symFn cx f_laws_markTermS = some tr_laws_markTermS := by kernel_rfl
theorem st_laws_markIntS : symFn cx f_laws_markIntS = some tr_laws_markIntS := by kernel_rfl
theorem st_laws_markTermSS : symFn cx f_laws_markTermSS = some tr_laws_markTermSS := by kernel_rfl
theorem st_laws_markRuleS : symFn cx f_laws_markRuleS = some tr_laws_markRuleS := by kernel_rfl
theorem st_laws_markSystem : symFn cx f_laws_markSystem = some tr_laws_markSystem := by kernel_rfl
theorem st_laws_heldIntS : symFn cx f_laws_heldIntS = some tr_laws_heldIntS := by kernel_rfl
theorem st_laws_FnExactImageBy : symFn cx f_laws_FnExactImageBy = some tr_laws_FnExactImageBy := by kernel_rfl
theorem st_spec_l2Has : symFn cx f_spec_l2Has = some tr_spec_l2Has := by kernel_rfl
theorem st_spec_l5Turned : symFn cx f_spec_l5Turned = some tr_spec_l5Turned := by kernel_rfl
theorem st_impl_pasts : symFn cx f_impl_pasts = some tr_impl_pasts := by kernel_rfl
theorem st_spec_l19Steps : symFn cx f_spec_l19Steps = some tr_spec_l19Steps := by kernel_rfl
theorem st_spec_l4Ahead : symFn cx f_spec_l4Ahead = some tr_spec_l4Ahead := by kernel_rfl
theorem st_spec_l19Back : symFn cx f_spec_l19Back = some tr_spec_l19Back := by kernel_rfl
theorem st_spec_AheadWithin : symFn cx f_spec_AheadWithin = some tr_spec_AheadWithin := by kernel_rfl
theorem st_impl_marks : symFn cx f_impl_marks = some tr_impl_marks := by kernel_rfl
theorem st_impl_within : symFn cx f_impl_within = some tr_impl_within := by kernel_rfl
theorem st_impl_withinOf : symFn cx f_impl_withinOf = some tr_impl_withinOf := by kernel_rfl
theorem st_impl_AheadWithin : symFn cx f_impl_AheadWithin = some tr_impl_AheadWithin := by kernel_rfl
theorem st_laws_FnExactAheadWithin : symFn cx f_laws_FnExactAheadWithin = some tr_laws_FnExactAheadWithin := by kernel_rfl
theorem st_spec_PastNumbers : symFn cx f_spec_PastNumbers = some tr_spec_PastNumbers := by kernel_rfl
theorem st_spec_PastBy : symFn cx f_spec_PastBy = some tr_spec_PastBy := by kernel_rfl
theorem st_impl_PastNumbers : symFn cx f_impl_PastNumbers = some tr_impl_PastNumbers := by kernel_rfl
theorem st_impl_PastBy : symFn cx f_impl_PastBy = some tr_impl_PastBy := by kernel_rfl
theorem st_laws_FnExactPastBy : symFn cx f_laws_FnExactPastBy = some tr_laws_FnExactPastBy := by kernel_rfl
end Go.Proofs.YthcpmnejbncckaaGreat
