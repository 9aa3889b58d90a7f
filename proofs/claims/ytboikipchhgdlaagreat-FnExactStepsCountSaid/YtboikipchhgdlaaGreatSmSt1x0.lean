/- Each function comes to its tree; no condition. -/
import Derived.Test.YtboikipchhgdlaaGreatSmTab0
namespace Go.Proofs.YtboikipchhgdlaaGreat
open Go Go.Sm Go.Sm.Q
set_option maxRecDepth 100000
theorem st_spec_l3Copy : symFn cx f_spec_l3Copy = some tr_spec_l3Copy := by kernel_rfl
theorem st_spec_l4State : symFn cx f_spec_l4State = some tr_spec_l4State := by kernel_rfl
theorem st_spec_l1Held : symFn cx f_spec_l1Held = some tr_spec_l1Held := by kernel_rfl
theorem st_spec_l1Truth : symFn cx f_spec_l1Truth = some tr_spec_l1Truth := by kernel_rfl
theorem st_spec_l1Do : symFn cx f_spec_l1Do = some tr_spec_l1Do := by kernel_rfl
theorem st_spec_l1Values : symFn cx f_spec_l1Values = some tr_spec_l1Values := by kernel_rfl
theorem st_spec_l2Last : symFn cx f_spec_l2Last = some tr_spec_l2Last := by kernel_rfl
theorem st_spec_l2In : symFn cx f_spec_l2In = some tr_spec_l2In := by kernel_rfl
theorem st_spec_l2Use : symFn cx f_spec_l2Use = some tr_spec_l2Use := by kernel_rfl
theorem st_spec_l2Same : symFn cx f_spec_l2Same = some tr_spec_l2Same := by kernel_rfl
theorem st_spec_l2Less : symFn cx f_spec_l2Less = some tr_spec_l2Less := by kernel_rfl
theorem st_spec_l2Put : symFn cx f_spec_l2Put = some tr_spec_l2Put := by kernel_rfl
theorem st_spec_l2Next : symFn cx f_spec_l2Next = some tr_spec_l2Next := by kernel_rfl
theorem st_spec_l4Number : symFn cx f_spec_l4Number = some tr_spec_l4Number := by kernel_rfl
theorem st_spec_l4Steps : symFn cx f_spec_l4Steps = some tr_spec_l4Steps := by kernel_rfl
theorem st_spec_l6Value : symFn cx f_spec_l6Value = some tr_spec_l6Value := by kernel_rfl
theorem st_spec_l6State : symFn cx f_spec_l6State = some tr_spec_l6State := by kernel_rfl
theorem st_spec_l10Both : symFn cx f_spec_l10Both = some tr_spec_l10Both := by kernel_rfl
theorem st_spec_l10Steps : symFn cx f_spec_l10Steps = some tr_spec_l10Steps := by kernel_rfl
theorem st_spec_l6Number : symFn cx f_spec_l6Number = some tr_spec_l6Number := by kernel_rfl
theorem st_spec_l8Add : symFn cx f_spec_l8Add = some tr_spec_l8Add := by kernel_rfl
theorem st_spec_l8Rows : symFn cx f_spec_l8Rows = some tr_spec_l8Rows := by kernel_rfl
theorem st_spec_l10Of : symFn cx f_spec_l10Of = some tr_spec_l10Of := by kernel_rfl
theorem st_spec_StepDiagram : symFn cx f_spec_StepDiagram = some tr_spec_StepDiagram := by kernel_rfl
theorem st_spec_l8Var : symFn cx f_spec_l8Var = some tr_spec_l8Var := by kernel_rfl
theorem st_spec_l8Fork : symFn cx f_spec_l8Fork = some tr_spec_l8Fork := by kernel_rfl
theorem st_spec_DiagramValid : symFn cx f_spec_DiagramValid = some tr_spec_DiagramValid := by kernel_rfl
theorem st_spec_l8Place : symFn cx f_spec_l8Place = some tr_spec_l8Place := by kernel_rfl
theorem st_spec_l8Count : symFn cx f_spec_l8Count = some tr_spec_l8Count := by kernel_rfl
theorem st_spec_DiagramCount : symFn cx f_spec_DiagramCount = some tr_spec_DiagramCount := by kernel_rfl
end Go.Proofs.YtboikipchhgdlaaGreat
