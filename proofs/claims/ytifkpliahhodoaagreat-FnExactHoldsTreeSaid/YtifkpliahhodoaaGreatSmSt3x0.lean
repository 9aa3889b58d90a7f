/- Each function comes to its tree; no condition. -/
import Derived.Test.YtifkpliahhodoaaGreatSmTab0
namespace Go.Proofs.YtifkpliahhodoaaGreat
open Go Go.Sm Go.Sm.Q
set_option maxRecDepth 100000
theorem st_impl_letters : symFn cx f_impl_letters = some tr_impl_letters := by kernel_rfl
theorem st_impl_lettersAll : symFn cx f_impl_lettersAll = some tr_impl_lettersAll := by kernel_rfl
theorem st_impl_some : symFn cx f_impl_some = some tr_impl_some := by kernel_rfl
theorem st_impl_not : symFn cx f_impl_not = some tr_impl_not := by kernel_rfl
theorem st_slices_Equal_Sbool_bool : symFn cx f_slices_Equal_Sbool_bool = some tr_slices_Equal_Sbool_bool := by kernel_rfl
theorem st_impl_treeRows : symFn cx f_impl_treeRows = some tr_impl_treeRows := by kernel_rfl
theorem st_impl_listOf : symFn cx f_impl_listOf = some tr_impl_listOf := by kernel_rfl
theorem st_impl_TreeSets : symFn cx f_impl_TreeSets = some tr_impl_TreeSets := by kernel_rfl
theorem st_laws_eqIntS : symFn cx f_laws_eqIntS = some tr_laws_eqIntS := by kernel_rfl
theorem st_laws_eqVar : symFn cx f_laws_eqVar = some tr_laws_eqVar := by kernel_rfl
theorem st_laws_eqVarS : symFn cx f_laws_eqVarS = some tr_laws_eqVarS := by kernel_rfl
theorem st_laws_eqTerm : symFn cx f_laws_eqTerm = some tr_laws_eqTerm := by kernel_rfl
theorem st_laws_eqTermS : symFn cx f_laws_eqTermS = some tr_laws_eqTermS := by kernel_rfl
theorem st_laws_eqTermSS : symFn cx f_laws_eqTermSS = some tr_laws_eqTermSS := by kernel_rfl
theorem st_laws_eqRule : symFn cx f_laws_eqRule = some tr_laws_eqRule := by kernel_rfl
theorem st_laws_eqRuleS : symFn cx f_laws_eqRuleS = some tr_laws_eqRuleS := by kernel_rfl
theorem st_laws_eqSystem : symFn cx f_laws_eqSystem = some tr_laws_eqSystem := by kernel_rfl
theorem st_laws_eqTree : symFn cx f_laws_eqTree = some tr_laws_eqTree := by kernel_rfl
theorem st_laws_eqTreeS : symFn cx f_laws_eqTreeS = some tr_laws_eqTreeS := by kernel_rfl
theorem st_laws_markVarS : symFn cx f_laws_markVarS = some tr_laws_markVarS := by kernel_rfl
theorem st_laws_markTermS : symFn cx f_laws_markTermS = some tr_laws_markTermS := by kernel_rfl
theorem st_laws_markIntS : symFn cx f_laws_markIntS = some tr_laws_markIntS := by kernel_rfl
theorem st_laws_markTermSS : symFn cx f_laws_markTermSS = some tr_laws_markTermSS := by kernel_rfl
theorem st_laws_markRuleS : symFn cx f_laws_markRuleS = some tr_laws_markRuleS := by kernel_rfl
theorem st_laws_markSystem : symFn cx f_laws_markSystem = some tr_laws_markSystem := by kernel_rfl
theorem st_laws_markTreeS : symFn cx f_laws_markTreeS = some tr_laws_markTreeS := by kernel_rfl
theorem st_laws_heldIntS : symFn cx f_laws_heldIntS = some tr_laws_heldIntS := by kernel_rfl
theorem st_spec_TreeStates : symFn cx f_spec_TreeStates = some tr_spec_TreeStates := by kernel_rfl
theorem st_impl_TreeStates : symFn cx f_impl_TreeStates = some tr_impl_TreeStates := by kernel_rfl
theorem st_laws_FnExactTreeStates : symFn cx f_laws_FnExactTreeStates = some tr_laws_FnExactTreeStates := by kernel_rfl
end Go.Proofs.YtifkpliahhodoaaGreat
