/- Each function comes to its tree; no condition. -/
import Derived.Test.YtplibobhcjgcmaaGreatSmTab0
/- Printed by a program: the functions come to their trees. -/
namespace Go.Proofs.YtplibobhcjgcmaaGreat
open Go Go.Sm Go.Sm.Q
set_option maxRecDepth 100000
theorem st_laws_markTermS : symFn cx f_laws_markTermS = some tr_laws_markTermS := by kernel_rfl
theorem st_laws_markIntS : symFn cx f_laws_markIntS = some tr_laws_markIntS := by kernel_rfl
theorem st_laws_markTermSS : symFn cx f_laws_markTermSS = some tr_laws_markTermSS := by kernel_rfl
theorem st_laws_markRuleS : symFn cx f_laws_markRuleS = some tr_laws_markRuleS := by kernel_rfl
theorem st_laws_markSystem : symFn cx f_laws_markSystem = some tr_laws_markSystem := by kernel_rfl
theorem st_laws_heldIntS : symFn cx f_laws_heldIntS = some tr_laws_heldIntS := by kernel_rfl
theorem st_laws_FnExactComponents : symFn cx f_laws_FnExactComponents = some tr_laws_FnExactComponents := by kernel_rfl
theorem st_spec_l6Many : symFn cx f_spec_l6Many = some tr_spec_l6Many := by kernel_rfl
theorem st_spec_l6Widths : symFn cx f_spec_l6Widths = some tr_spec_l6Widths := by kernel_rfl
theorem st_spec_l6Sum : symFn cx f_spec_l6Sum = some tr_spec_l6Sum := by kernel_rfl
theorem st_spec_l10Wide : symFn cx f_spec_l10Wide = some tr_spec_l10Wide := by kernel_rfl
theorem st_spec_l4Behind : symFn cx f_spec_l4Behind = some tr_spec_l4Behind := by kernel_rfl
theorem st_spec_l4List : symFn cx f_spec_l4List = some tr_spec_l4List := by kernel_rfl
theorem st_spec_l4Set : symFn cx f_spec_l4Set = some tr_spec_l4Set := by kernel_rfl
theorem st_spec_l4Mix : symFn cx f_spec_l4Mix = some tr_spec_l4Mix := by kernel_rfl
theorem st_spec_SetEither : symFn cx f_spec_SetEither = some tr_spec_SetEither := by kernel_rfl
theorem st_spec_ReachBy : symFn cx f_spec_ReachBy = some tr_spec_ReachBy := by kernel_rfl
theorem st_impl_bitsFor : symFn cx f_impl_bitsFor = some tr_impl_bitsFor := by kernel_rfl
theorem st_impl_bitsOf : symFn cx f_impl_bitsOf = some tr_impl_bitsOf := by kernel_rfl
theorem st_impl_bitCount : symFn cx f_impl_bitCount = some tr_impl_bitCount := by kernel_rfl
theorem st_impl_halfNarrow : symFn cx f_impl_halfNarrow = some tr_impl_halfNarrow := by kernel_rfl
theorem st_impl_first : symFn cx f_impl_first = some tr_impl_first := by kernel_rfl
theorem st_impl_steps : symFn cx f_impl_steps = some tr_impl_steps := by kernel_rfl
theorem st_impl_reachOf : symFn cx f_impl_reachOf = some tr_impl_reachOf := by kernel_rfl
theorem st_impl_listOf : symFn cx f_impl_listOf = some tr_impl_listOf := by kernel_rfl
theorem st_slices_Max_Sint_int : symFn cx f_slices_Max_Sint_int = some tr_slices_Max_Sint_int := by kernel_rfl
theorem st_impl_ReachBy : symFn cx f_impl_ReachBy = some tr_impl_ReachBy := by kernel_rfl
theorem st_laws_FnExactReachBy : symFn cx f_laws_FnExactReachBy = some tr_laws_FnExactReachBy := by kernel_rfl
end Go.Proofs.YtplibobhcjgcmaaGreat
