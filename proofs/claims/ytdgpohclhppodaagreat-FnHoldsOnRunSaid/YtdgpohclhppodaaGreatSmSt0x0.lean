/- Each function comes to its tree; no condition. -/
import Derived.Test.YtdgpohclhppodaaGreatSmTab0
namespace Go.Proofs.YtdgpohclhppodaaGreat
open Go Go.Sm Go.Sm.Q
set_option maxRecDepth 100000
theorem st_spec_l40Open:symFn cx f_spec_l40Open=some tr_spec_l40Open:=by kernel_rfl
theorem st_spec_l40Rd_pick:symFn cx f_spec_l40Rd_pick=some tr_spec_l40Rd_pick:=by kernel_rfl
theorem st_spec_l40Rd_num:symFn cx f_spec_l40Rd_num=some tr_spec_l40Rd_num:=by kernel_rfl
theorem st_spec_l2VarOf:symFn cx f_spec_l2VarOf=some tr_spec_l2VarOf:=by kernel_rfl
theorem st_spec_l2Const:symFn cx f_spec_l2Const=some tr_spec_l2Const:=by kernel_rfl
theorem st_spec_l2Cond:symFn cx f_spec_l2Cond=some tr_spec_l2Cond:=by kernel_rfl
theorem st_spec_l1In:symFn cx f_spec_l1In=some tr_spec_l1In:=by kernel_rfl
theorem st_spec_l1One:symFn cx f_spec_l1One=some tr_spec_l1One:=by kernel_rfl
theorem st_spec_l1Kind:symFn cx f_spec_l1Kind=some tr_spec_l1Kind:=by kernel_rfl
theorem st_spec_KindsOf:symFn cx f_spec_KindsOf=some tr_spec_KindsOf:=by kernel_rfl
theorem st_spec_TermsValid:symFn cx f_spec_TermsValid=some tr_spec_TermsValid:=by kernel_rfl
theorem st_spec_l1Moved:symFn cx f_spec_l1Moved=some tr_spec_l1Moved:=by kernel_rfl
theorem st_spec_Joined:symFn cx f_spec_Joined=some tr_spec_Joined:=by kernel_rfl
theorem st_spec_l2When:symFn cx f_spec_l2When=some tr_spec_l2When:=by kernel_rfl
theorem st_spec_l1Number:symFn cx f_spec_l1Number=some tr_spec_l1Number:=by kernel_rfl
theorem st_spec_l1Pick:symFn cx f_spec_l1Pick=some tr_spec_l1Pick:=by kernel_rfl
theorem st_spec_l1Terms:symFn cx f_spec_l1Terms=some tr_spec_l1Terms:=by kernel_rfl
theorem st_spec_l2Value:symFn cx f_spec_l2Value=some tr_spec_l2Value:=by kernel_rfl
theorem st_spec_l2Rules:symFn cx f_spec_l2Rules=some tr_spec_l2Rules:=by kernel_rfl
theorem st_spec_l2System:symFn cx f_spec_l2System=some tr_spec_l2System:=by kernel_rfl
theorem st_spec_l2Any:symFn cx f_spec_l2Any=some tr_spec_l2Any:=by kernel_rfl
theorem st_spec_l2Var:symFn cx f_spec_l2Var=some tr_spec_l2Var:=by kernel_rfl
theorem st_spec_l1Any:symFn cx f_spec_l1Any=some tr_spec_l1Any:=by kernel_rfl
theorem st_impl_in:symFn cx f_impl_in=some tr_impl_in:=by kernel_rfl
theorem st_impl_varOk:symFn cx f_impl_varOk=some tr_impl_varOk:=by kernel_rfl
theorem st_impl_size:symFn cx f_impl_size=some tr_impl_size:=by kernel_rfl
theorem st_impl_parts:symFn cx f_impl_parts=some tr_impl_parts:=by kernel_rfl
theorem st_impl_kindsOf:symFn cx f_impl_kindsOf=some tr_impl_kindsOf:=by kernel_rfl
theorem st_impl_kindOf:symFn cx f_impl_kindOf=some tr_impl_kindOf:=by kernel_rfl
theorem st_impl_ruleOk:symFn cx f_impl_ruleOk=some tr_impl_ruleOk:=by kernel_rfl
end Go.Proofs.YtdgpohclhppodaaGreat
