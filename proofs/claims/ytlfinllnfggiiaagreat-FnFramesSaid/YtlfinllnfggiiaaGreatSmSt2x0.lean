/- Each function comes to its tree; no condition. -/
import Derived.Test.YtlfinllnfggiiaaGreatSmTab0
namespace Go.Proofs.YtlfinllnfggiiaaGreat
open Go Go.Sm Go.Sm.Q
set_option maxRecDepth 100000
theorem st_impl_first:symFn cx f_impl_first=some tr_impl_first:=by kernel_rfl
theorem st_spec_l15Ask:symFn cx f_spec_l15Ask=some tr_spec_l15Ask:=by kernel_rfl
theorem st_spec_DrawCloseIn:symFn cx f_spec_DrawCloseIn=some tr_spec_DrawCloseIn:=by kernel_rfl
theorem st_spec_l4State:symFn cx f_spec_l4State=some tr_spec_l4State:=by kernel_rfl
theorem st_spec_StatesWhere:symFn cx f_spec_StatesWhere=some tr_spec_StatesWhere:=by kernel_rfl
theorem st_spec_l4Marks:symFn cx f_spec_l4Marks=some tr_spec_l4Marks:=by kernel_rfl
theorem st_spec_l15Good:symFn cx f_spec_l15Good=some tr_spec_l15Good:=by kernel_rfl
theorem st_spec_l4Number:symFn cx f_spec_l4Number=some tr_spec_l4Number:=by kernel_rfl
theorem st_spec_l4Steps:symFn cx f_spec_l4Steps=some tr_spec_l4Steps:=by kernel_rfl
theorem st_spec_l3Between:symFn cx f_spec_l3Between=some tr_spec_l3Between:=by kernel_rfl
theorem st_spec_TraceOf:symFn cx f_spec_TraceOf=some tr_spec_TraceOf:=by kernel_rfl
theorem st_spec_l17Way:symFn cx f_spec_l17Way=some tr_spec_l17Way:=by kernel_rfl
theorem st_spec_l14Range:symFn cx f_spec_l14Range=some tr_spec_l14Range:=by kernel_rfl
theorem st_spec_l17Bad:symFn cx f_spec_l17Bad=some tr_spec_l17Bad:=by kernel_rfl
theorem st_spec_l17From:symFn cx f_spec_l17From=some tr_spec_l17From:=by kernel_rfl
theorem st_spec_l6Many:symFn cx f_spec_l6Many=some tr_spec_l6Many:=by kernel_rfl
theorem st_spec_l6Widths:symFn cx f_spec_l6Widths=some tr_spec_l6Widths:=by kernel_rfl
theorem st_spec_l6Value:symFn cx f_spec_l6Value=some tr_spec_l6Value:=by kernel_rfl
theorem st_spec_l6State:symFn cx f_spec_l6State=some tr_spec_l6State:=by kernel_rfl
theorem st_spec_l16Has:symFn cx f_spec_l16Has=some tr_spec_l16Has:=by kernel_rfl
theorem st_spec_l16States:symFn cx f_spec_l16States=some tr_spec_l16States:=by kernel_rfl
theorem st_spec_l4Set:symFn cx f_spec_l4Set=some tr_spec_l4Set:=by kernel_rfl
theorem st_spec_l4Mix:symFn cx f_spec_l4Mix=some tr_spec_l4Mix:=by kernel_rfl
theorem st_spec_SetWithout:symFn cx f_spec_SetWithout=some tr_spec_SetWithout:=by kernel_rfl
theorem st_spec_l4List:symFn cx f_spec_l4List=some tr_spec_l4List:=by kernel_rfl
theorem st_spec_l17Ordered:symFn cx f_spec_l17Ordered=some tr_spec_l17Ordered:=by kernel_rfl
theorem st_spec_SetBoth:symFn cx f_spec_SetBoth=some tr_spec_SetBoth:=by kernel_rfl
theorem st_spec_l17Blocked:symFn cx f_spec_l17Blocked=some tr_spec_l17Blocked:=by kernel_rfl
theorem st_spec_l17Wide:symFn cx f_spec_l17Wide=some tr_spec_l17Wide:=by kernel_rfl
theorem st_spec_l17Drop:symFn cx f_spec_l17Drop=some tr_spec_l17Drop:=by kernel_rfl
end Go.Proofs.YtlfinllnfggiiaaGreat
