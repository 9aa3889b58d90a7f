/- Each function comes to its tree; no condition. -/
import Derived.Test.YtboikipchhgdlaaGreatSmTab0
namespace Go.Proofs.YtboikipchhgdlaaGreat
open Go Go.Sm Go.Sm.Q
set_option maxRecDepth 100000
theorem st_spec_l6State : symFn cx f_spec_l6State = some tr_spec_l6State := by kernel_rfl
theorem st_spec_l10Both : symFn cx f_spec_l10Both = some tr_spec_l10Both := by kernel_rfl
theorem st_spec_l10Steps : symFn cx f_spec_l10Steps = some tr_spec_l10Steps := by kernel_rfl
theorem st_spec_l6Number : symFn cx f_spec_l6Number = some tr_spec_l6Number := by kernel_rfl
theorem st_spec_l8Add : symFn cx f_spec_l8Add = some tr_spec_l8Add := by kernel_rfl
theorem st_spec_l8Rows : symFn cx f_spec_l8Rows = some tr_spec_l8Rows := by kernel_rfl
theorem st_spec_l10Of : symFn cx f_spec_l10Of = some tr_spec_l10Of := by kernel_rfl
theorem st_spec_StepDiagram : symFn cx f_spec_StepDiagram = some tr_spec_StepDiagram := by kernel_rfl
theorem st_spec_l8Var : symFn cx f_spec_l8Var = some tr_spec_l8Var := by kernel_rfl
theorem st_spec_l8Fork : symFn cx f_spec_l8Fork = some tr_spec_l8Fork := by kernel_rfl
theorem st_spec_DiagramValid : symFn cx f_spec_DiagramValid = some tr_spec_DiagramValid := by kernel_rfl
theorem st_spec_l8Place : symFn cx f_spec_l8Place = some tr_spec_l8Place := by kernel_rfl
theorem st_spec_l8Count : symFn cx f_spec_l8Count = some tr_spec_l8Count := by kernel_rfl
theorem st_spec_DiagramCount : symFn cx f_spec_DiagramCount = some tr_spec_DiagramCount := by kernel_rfl
theorem st_spec_StepsCount : symFn cx f_spec_StepsCount = some tr_spec_StepsCount := by kernel_rfl
theorem st_impl_in : symFn cx f_impl_in = some tr_impl_in := by kernel_rfl
theorem st_impl_varOk : symFn cx f_impl_varOk = some tr_impl_varOk := by kernel_rfl
theorem st_impl_size : symFn cx f_impl_size = some tr_impl_size := by kernel_rfl
theorem st_impl_parts : symFn cx f_impl_parts = some tr_impl_parts := by kernel_rfl
theorem st_impl_kindsOf : symFn cx f_impl_kindsOf = some tr_impl_kindsOf := by kernel_rfl
theorem st_impl_kindOf : symFn cx f_impl_kindOf = some tr_impl_kindOf := by kernel_rfl
theorem st_impl_ruleOk : symFn cx f_impl_ruleOk = some tr_impl_ruleOk := by kernel_rfl
theorem st_impl_SystemValid : symFn cx f_impl_SystemValid = some tr_impl_SystemValid := by kernel_rfl
theorem st_impl_bitsFor : symFn cx f_impl_bitsFor = some tr_impl_bitsFor := by kernel_rfl
theorem st_impl_clone_int : symFn cx f_impl_clone_int = some tr_impl_clone_int := by kernel_rfl
theorem st_impl_bitsOf : symFn cx f_impl_bitsOf = some tr_impl_bitsOf := by kernel_rfl
theorem st_impl_bitCount : symFn cx f_impl_bitCount = some tr_impl_bitCount := by kernel_rfl
theorem st_impl_halfNarrow : symFn cx f_impl_halfNarrow = some tr_impl_halfNarrow := by kernel_rfl
theorem st_impl_stateAt : symFn cx f_impl_stateAt = some tr_impl_stateAt := by kernel_rfl
theorem st_impl_held : symFn cx f_impl_held = some tr_impl_held := by kernel_rfl
end Go.Proofs.YtboikipchhgdlaaGreat
