/- Each function comes to its tree; no condition. -/
import Derived.Test.YtifkpliahhodoaaGreatSmTab0
namespace Go.Proofs.YtifkpliahhodoaaGreat
open Go Go.Sm Go.Sm.Q
set_option maxRecDepth 100000
theorem st_spec_TreesValid : symFn cx f_spec_TreesValid = some tr_spec_TreesValid := by kernel_rfl
theorem st_spec_l24Asked : symFn cx f_spec_l24Asked = some tr_spec_l24Asked := by kernel_rfl
theorem st_spec_SizeOf : symFn cx f_spec_SizeOf = some tr_spec_SizeOf := by kernel_rfl
theorem st_spec_FirstState : symFn cx f_spec_FirstState = some tr_spec_FirstState := by kernel_rfl
theorem st_spec_l3Copy : symFn cx f_spec_l3Copy = some tr_spec_l3Copy := by kernel_rfl
theorem st_spec_l4State : symFn cx f_spec_l4State = some tr_spec_l4State := by kernel_rfl
theorem st_spec_l1Held : symFn cx f_spec_l1Held = some tr_spec_l1Held := by kernel_rfl
theorem st_spec_l1Truth : symFn cx f_spec_l1Truth = some tr_spec_l1Truth := by kernel_rfl
theorem st_spec_l1Do : symFn cx f_spec_l1Do = some tr_spec_l1Do := by kernel_rfl
theorem st_spec_l1Values : symFn cx f_spec_l1Values = some tr_spec_l1Values := by kernel_rfl
theorem st_spec_l2Last : symFn cx f_spec_l2Last = some tr_spec_l2Last := by kernel_rfl
theorem st_spec_l2In : symFn cx f_spec_l2In = some tr_spec_l2In := by kernel_rfl
theorem st_spec_l2Use : symFn cx f_spec_l2Use = some tr_spec_l2Use := by kernel_rfl
theorem st_spec_l2Same : symFn cx f_spec_l2Same = some tr_spec_l2Same := by kernel_rfl
theorem st_spec_l2Less : symFn cx f_spec_l2Less = some tr_spec_l2Less := by kernel_rfl
theorem st_spec_l2Put : symFn cx f_spec_l2Put = some tr_spec_l2Put := by kernel_rfl
theorem st_spec_l2Next : symFn cx f_spec_l2Next = some tr_spec_l2Next := by kernel_rfl
theorem st_spec_l4Number : symFn cx f_spec_l4Number = some tr_spec_l4Number := by kernel_rfl
theorem st_spec_l4Steps : symFn cx f_spec_l4Steps = some tr_spec_l4Steps := by kernel_rfl
theorem st_spec_l22Onward : symFn cx f_spec_l22Onward = some tr_spec_l22Onward := by kernel_rfl
theorem st_spec_l20Of : symFn cx f_spec_l20Of = some tr_spec_l20Of := by kernel_rfl
theorem st_spec_l24Not : symFn cx f_spec_l24Not = some tr_spec_l24Not := by kernel_rfl
theorem st_spec_l24Both : symFn cx f_spec_l24Both = some tr_spec_l24Both := by kernel_rfl
theorem st_spec_l4Ahead : symFn cx f_spec_l4Ahead = some tr_spec_l4Ahead := by kernel_rfl
theorem st_spec_l24Until : symFn cx f_spec_l24Until = some tr_spec_l24Until := by kernel_rfl
theorem st_spec_l24Stay : symFn cx f_spec_l24Stay = some tr_spec_l24Stay := by kernel_rfl
theorem st_spec_l24All : symFn cx f_spec_l24All = some tr_spec_l24All := by kernel_rfl
theorem st_spec_l24Row : symFn cx f_spec_l24Row = some tr_spec_l24Row := by kernel_rfl
theorem st_spec_l24Rows : symFn cx f_spec_l24Rows = some tr_spec_l24Rows := by kernel_rfl
theorem st_spec_l4List : symFn cx f_spec_l4List = some tr_spec_l4List := by kernel_rfl
end Go.Proofs.YtifkpliahhodoaaGreat
