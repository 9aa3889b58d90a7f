/- Each function comes to its tree; no condition. -/
import Derived.Test.YtilmaoicaejbdaaGreatSmTab0
namespace Go.Proofs.YtilmaoicaejbdaaGreat
open Go Go.Sm Go.Sm.Q
set_option maxRecDepth 100000
theorem st_spec_l40Rd_num : symFn cx f_spec_l40Rd_num = some tr_spec_l40Rd_num := by kernel_rfl
theorem st_spec_l2VarOf : symFn cx f_spec_l2VarOf = some tr_spec_l2VarOf := by kernel_rfl
theorem st_spec_l2Const : symFn cx f_spec_l2Const = some tr_spec_l2Const := by kernel_rfl
theorem st_spec_l2Cond : symFn cx f_spec_l2Cond = some tr_spec_l2Cond := by kernel_rfl
theorem st_spec_TermsValid : symFn cx f_spec_TermsValid = some tr_spec_TermsValid := by kernel_rfl
theorem st_spec_l1Moved : symFn cx f_spec_l1Moved = some tr_spec_l1Moved := by kernel_rfl
theorem st_spec_Joined : symFn cx f_spec_Joined = some tr_spec_Joined := by kernel_rfl
theorem st_spec_l2When : symFn cx f_spec_l2When = some tr_spec_l2When := by kernel_rfl
theorem st_spec_l1Number : symFn cx f_spec_l1Number = some tr_spec_l1Number := by kernel_rfl
theorem st_spec_l1Pick : symFn cx f_spec_l1Pick = some tr_spec_l1Pick := by kernel_rfl
theorem st_spec_l1Terms : symFn cx f_spec_l1Terms = some tr_spec_l1Terms := by kernel_rfl
theorem st_spec_l2Value : symFn cx f_spec_l2Value = some tr_spec_l2Value := by kernel_rfl
theorem st_spec_l2Rules : symFn cx f_spec_l2Rules = some tr_spec_l2Rules := by kernel_rfl
theorem st_spec_l2System : symFn cx f_spec_l2System = some tr_spec_l2System := by kernel_rfl
theorem st_spec_l2Any : symFn cx f_spec_l2Any = some tr_spec_l2Any := by kernel_rfl
theorem st_spec_l1Any : symFn cx f_spec_l1Any = some tr_spec_l1Any := by kernel_rfl
theorem st_spec_l15Ask : symFn cx f_spec_l15Ask = some tr_spec_l15Ask := by kernel_rfl
theorem st_spec_DrawLeastInduction : symFn cx f_spec_DrawLeastInduction = some tr_spec_DrawLeastInduction := by kernel_rfl
theorem st_impl_first : symFn cx f_impl_first = some tr_impl_first := by kernel_rfl
theorem st_math_bits_Mul32 : symFn cx f_math_bits_Mul32 = some tr_math_bits_Mul32 := by kernel_rfl
theorem st_math_bits_Mul64 : symFn cx f_math_bits_Mul64 = some tr_math_bits_Mul64 := by kernel_rfl
theorem st_math_bits_Mul : symFn cx f_math_bits_Mul = some tr_math_bits_Mul := by kernel_rfl
theorem st_slices_Repeat_Sint_int : symFn cx f_slices_Repeat_Sint_int = some tr_slices_Repeat_Sint_int := by kernel_rfl
theorem st_impl_steps : symFn cx f_impl_steps = some tr_impl_steps := by kernel_rfl
theorem st_impl_KInductive : symFn cx f_impl_KInductive = some tr_impl_KInductive := by kernel_rfl
theorem st_impl_LeastInduction : symFn cx f_impl_LeastInduction = some tr_impl_LeastInduction := by kernel_rfl
theorem st_spec_l5First : symFn cx f_spec_l5First = some tr_spec_l5First := by kernel_rfl
theorem st_spec_l5Steps : symFn cx f_spec_l5Steps = some tr_spec_l5Steps := by kernel_rfl
theorem st_spec_StepsTo : symFn cx f_spec_StepsTo = some tr_spec_StepsTo := by kernel_rfl
theorem st_spec_l15Base : symFn cx f_spec_l15Base = some tr_spec_l15Base := by kernel_rfl
end Go.Proofs.YtilmaoicaejbdaaGreat
