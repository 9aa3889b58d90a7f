/- Each function comes to its tree; no condition. -/
import Derived.Test.YtknlennollmgeaaGreatSmTab0
namespace Go.Proofs.YtknlennollmgeaaGreat
open Go Go.Sm Go.Sm.Q
set_option maxRecDepth 100000
theorem st_spec_l4Ahead:symFn cx f_spec_l4Ahead=some tr_spec_l4Ahead:=by kernel_rfl
theorem st_spec_l4List:symFn cx f_spec_l4List=some tr_spec_l4List:=by kernel_rfl
theorem st_spec_FairWithin:symFn cx f_spec_FairWithin=some tr_spec_FairWithin:=by kernel_rfl
theorem st_spec_AlwaysComes:symFn cx f_spec_AlwaysComes=some tr_spec_AlwaysComes:=by kernel_rfl
theorem st_laws_FnExactAlwaysComes:symFn cx f_laws_FnExactAlwaysComes=some tr_laws_FnExactAlwaysComes:=by kernel_rfl
end Go.Proofs.YtknlennollmgeaaGreat
