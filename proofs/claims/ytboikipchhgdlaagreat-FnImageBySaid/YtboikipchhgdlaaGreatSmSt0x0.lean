/- Each function comes to its tree; no condition. -/
import Derived.Test.YtboikipchhgdlaaGreatSmTab0
namespace Go.Proofs.YtboikipchhgdlaaGreat
open Go Go.Sm Go.Sm.Q
set_option maxRecDepth 100000
theorem st_spec_l1In : symFn cx f_spec_l1In = some tr_spec_l1In := by kernel_rfl
theorem st_spec_l2Var : symFn cx f_spec_l2Var = some tr_spec_l2Var := by kernel_rfl
theorem st_spec_l1One : symFn cx f_spec_l1One = some tr_spec_l1One := by kernel_rfl
theorem st_spec_l1Kind : symFn cx f_spec_l1Kind = some tr_spec_l1Kind := by kernel_rfl
theorem st_spec_KindsOf : symFn cx f_spec_KindsOf = some tr_spec_KindsOf := by kernel_rfl
theorem st_spec_l2Is : symFn cx f_spec_l2Is = some tr_spec_l2Is := by kernel_rfl
theorem st_spec_l2Rule : symFn cx f_spec_l2Rule = some tr_spec_l2Rule := by kernel_rfl
theorem st_spec_SystemValid : symFn cx f_spec_SystemValid = some tr_spec_SystemValid := by kernel_rfl
theorem st_spec_l6Many : symFn cx f_spec_l6Many = some tr_spec_l6Many := by kernel_rfl
theorem st_spec_l6Widths : symFn cx f_spec_l6Widths = some tr_spec_l6Widths := by kernel_rfl
theorem st_spec_l6Sum : symFn cx f_spec_l6Sum = some tr_spec_l6Sum := by kernel_rfl
theorem st_spec_l10Wide : symFn cx f_spec_l10Wide = some tr_spec_l10Wide := by kernel_rfl
theorem st_spec_SizeOf : symFn cx f_spec_SizeOf = some tr_spec_SizeOf := by kernel_rfl
theorem st_spec_FirstState : symFn cx f_spec_FirstState = some tr_spec_FirstState := by kernel_rfl
theorem st_spec_l3Copy : symFn cx f_spec_l3Copy = some tr_spec_l3Copy := by kernel_rfl
theorem st_spec_l4State : symFn cx f_spec_l4State = some tr_spec_l4State := by kernel_rfl
theorem st_spec_l1Held : symFn cx f_spec_l1Held = some tr_spec_l1Held := by kernel_rfl
theorem st_spec_l1Truth : symFn cx f_spec_l1Truth = some tr_spec_l1Truth := by kernel_rfl
theorem st_spec_l1Do : symFn cx f_spec_l1Do = some tr_spec_l1Do := by kernel_rfl
theorem st_spec_l1Values : symFn cx f_spec_l1Values = some tr_spec_l1Values := by kernel_rfl
theorem st_spec_l2Last : symFn cx f_spec_l2Last = some tr_spec_l2Last := by kernel_rfl
theorem st_spec_l2In : symFn cx f_spec_l2In = some tr_spec_l2In := by kernel_rfl
theorem st_spec_l2Use : symFn cx f_spec_l2Use = some tr_spec_l2Use := by kernel_rfl
theorem st_spec_l2Same : symFn cx f_spec_l2Same = some tr_spec_l2Same := by kernel_rfl
theorem st_spec_l2Less : symFn cx f_spec_l2Less = some tr_spec_l2Less := by kernel_rfl
theorem st_spec_l2Put : symFn cx f_spec_l2Put = some tr_spec_l2Put := by kernel_rfl
theorem st_spec_l2Next : symFn cx f_spec_l2Next = some tr_spec_l2Next := by kernel_rfl
theorem st_spec_l4Number : symFn cx f_spec_l4Number = some tr_spec_l4Number := by kernel_rfl
theorem st_spec_l4Steps : symFn cx f_spec_l4Steps = some tr_spec_l4Steps := by kernel_rfl
theorem st_spec_l6Value : symFn cx f_spec_l6Value = some tr_spec_l6Value := by kernel_rfl
end Go.Proofs.YtboikipchhgdlaaGreat
