/- Each function comes to its tree; no condition. -/
import Derived.Test.YtknlennollmgeaaGreatSmTab0
namespace Go.Proofs.YtknlennollmgeaaGreat
open Go Go.Sm Go.Sm.Q
set_option maxRecDepth 100000
theorem st_impl_FairWithin:symFn cx f_impl_FairWithin=some tr_impl_FairWithin:=by kernel_rfl
theorem st_spec_l4Ahead:symFn cx f_spec_l4Ahead=some tr_spec_l4Ahead:=by kernel_rfl
theorem st_spec_l4List:symFn cx f_spec_l4List=some tr_spec_l4List:=by kernel_rfl
theorem st_spec_FairWithin:symFn cx f_spec_FairWithin=some tr_spec_FairWithin:=by kernel_rfl
theorem st_laws_FnExactFairWithin:symFn cx f_laws_FnExactFairWithin=some tr_laws_FnExactFairWithin:=by kernel_rfl
end Go.Proofs.YtknlennollmgeaaGreat
