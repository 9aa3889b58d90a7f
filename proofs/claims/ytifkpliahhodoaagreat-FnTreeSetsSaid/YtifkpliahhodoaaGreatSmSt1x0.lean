/- Each function comes to its tree; no condition. -/
import Derived.Test.YtifkpliahhodoaaGreatSmTab0
namespace Go.Proofs.YtifkpliahhodoaaGreat
open Go Go.Sm Go.Sm.Q
set_option maxRecDepth 100000
theorem st_spec_l22Onward:symFn cx f_spec_l22Onward=some tr_spec_l22Onward:=by kernel_rfl
theorem st_spec_l20Of:symFn cx f_spec_l20Of=some tr_spec_l20Of:=by kernel_rfl
theorem st_spec_l24Not:symFn cx f_spec_l24Not=some tr_spec_l24Not:=by kernel_rfl
theorem st_spec_l24Both:symFn cx f_spec_l24Both=some tr_spec_l24Both:=by kernel_rfl
theorem st_spec_l4Ahead:symFn cx f_spec_l4Ahead=some tr_spec_l4Ahead:=by kernel_rfl
theorem st_spec_l24Until:symFn cx f_spec_l24Until=some tr_spec_l24Until:=by kernel_rfl
theorem st_spec_l24Stay:symFn cx f_spec_l24Stay=some tr_spec_l24Stay:=by kernel_rfl
theorem st_spec_l24All:symFn cx f_spec_l24All=some tr_spec_l24All:=by kernel_rfl
theorem st_spec_l24Row:symFn cx f_spec_l24Row=some tr_spec_l24Row:=by kernel_rfl
theorem st_spec_l24Rows:symFn cx f_spec_l24Rows=some tr_spec_l24Rows:=by kernel_rfl
theorem st_spec_l4List:symFn cx f_spec_l4List=some tr_spec_l4List:=by kernel_rfl
theorem st_spec_TreeSets:symFn cx f_spec_TreeSets=some tr_spec_TreeSets:=by kernel_rfl
theorem st_impl_in:symFn cx f_impl_in=some tr_impl_in:=by kernel_rfl
theorem st_impl_varOk:symFn cx f_impl_varOk=some tr_impl_varOk:=by kernel_rfl
theorem st_impl_size:symFn cx f_impl_size=some tr_impl_size:=by kernel_rfl
theorem st_impl_parts:symFn cx f_impl_parts=some tr_impl_parts:=by kernel_rfl
theorem st_impl_kindsOf:symFn cx f_impl_kindsOf=some tr_impl_kindsOf:=by kernel_rfl
theorem st_impl_kindOf:symFn cx f_impl_kindOf=some tr_impl_kindOf:=by kernel_rfl
theorem st_impl_ruleOk:symFn cx f_impl_ruleOk=some tr_impl_ruleOk:=by kernel_rfl
theorem st_impl_SystemValid:symFn cx f_impl_SystemValid=some tr_impl_SystemValid:=by kernel_rfl
theorem st_impl_factsOk:symFn cx f_impl_factsOk=some tr_impl_factsOk:=by kernel_rfl
theorem st_impl_treeParts:symFn cx f_impl_treeParts=some tr_impl_treeParts:=by kernel_rfl
theorem st_impl_TreesValid:symFn cx f_impl_TreesValid=some tr_impl_TreesValid:=by kernel_rfl
theorem st_impl_askTree:symFn cx f_impl_askTree=some tr_impl_askTree:=by kernel_rfl
theorem st_impl_stateAt:symFn cx f_impl_stateAt=some tr_impl_stateAt:=by kernel_rfl
theorem st_impl_held:symFn cx f_impl_held=some tr_impl_held:=by kernel_rfl
theorem st_impl_bit:symFn cx f_impl_bit=some tr_impl_bit:=by kernel_rfl
theorem st_impl_do:symFn cx f_impl_do=some tr_impl_do:=by kernel_rfl
theorem st_impl_eval:symFn cx f_impl_eval=some tr_impl_eval:=by kernel_rfl
theorem st_impl_clone_int:symFn cx f_impl_clone_int=some tr_impl_clone_int:=by kernel_rfl
end Go.Proofs.YtifkpliahhodoaaGreat
