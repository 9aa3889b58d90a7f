/- Each function comes to its tree; no condition. -/
import Derived.Test.YthapopegchnhlabGreatSmTab0
namespace Go.Proofs.YthapopegchnhlabGreat
open Go Go.Sm Go.Sm.Q
set_option maxRecDepth 100000
theorem st_slices_pdqsortOrdered_int : symFn cx f_slices_pdqsortOrdered_int = some tr_slices_pdqsortOrdered_int := by kernel_rfl
theorem st_impl_touchedBy : symFn cx f_impl_touchedBy = some tr_impl_touchedBy := by kernel_rfl
theorem st_impl_rulesApart : symFn cx f_impl_rulesApart = some tr_impl_rulesApart := by kernel_rfl
theorem st_impl_wakersOf : symFn cx f_impl_wakersOf = some tr_impl_wakersOf := by kernel_rfl
theorem st_impl_stubbornOf : symFn cx f_impl_stubbornOf = some tr_impl_stubbornOf := by kernel_rfl
theorem st_impl_held : symFn cx f_impl_held = some tr_impl_held := by kernel_rfl
theorem st_impl_bit : symFn cx f_impl_bit = some tr_impl_bit := by kernel_rfl
theorem st_impl_do : symFn cx f_impl_do = some tr_impl_do := by kernel_rfl
theorem st_impl_eval : symFn cx f_impl_eval = some tr_impl_eval := by kernel_rfl
theorem st_impl_use : symFn cx f_impl_use = some tr_impl_use := by kernel_rfl
theorem st_impl_usableIn : symFn cx f_impl_usableIn = some tr_impl_usableIn := by kernel_rfl
theorem st_impl_marks : symFn cx f_impl_marks = some tr_impl_marks := by kernel_rfl
theorem st_impl_stubborn_from : symFn cx f_impl_stubborn_from = some tr_impl_stubborn_from := by kernel_rfl
theorem st_impl_listOf : symFn cx f_impl_listOf = some tr_impl_listOf := by kernel_rfl
theorem st_impl_StubbornFrom : symFn cx f_impl_StubbornFrom = some tr_impl_StubbornFrom := by kernel_rfl
theorem st_spec_l2Var : symFn cx f_spec_l2Var = some tr_spec_l2Var := by kernel_rfl
theorem st_spec_l2Is : symFn cx f_spec_l2Is = some tr_spec_l2Is := by kernel_rfl
theorem st_spec_l2Rule : symFn cx f_spec_l2Rule = some tr_spec_l2Rule := by kernel_rfl
theorem st_spec_SystemValid : symFn cx f_spec_SystemValid = some tr_spec_SystemValid := by kernel_rfl
theorem st_spec_l2In : symFn cx f_spec_l2In = some tr_spec_l2In := by kernel_rfl
theorem st_spec_InRange : symFn cx f_spec_InRange = some tr_spec_InRange := by kernel_rfl
theorem st_spec_l1Held : symFn cx f_spec_l1Held = some tr_spec_l1Held := by kernel_rfl
theorem st_spec_l1Truth : symFn cx f_spec_l1Truth = some tr_spec_l1Truth := by kernel_rfl
theorem st_spec_l1Do : symFn cx f_spec_l1Do = some tr_spec_l1Do := by kernel_rfl
theorem st_spec_l1Values : symFn cx f_spec_l1Values = some tr_spec_l1Values := by kernel_rfl
theorem st_spec_l2Last : symFn cx f_spec_l2Last = some tr_spec_l2Last := by kernel_rfl
theorem st_spec_l2Use : symFn cx f_spec_l2Use = some tr_spec_l2Use := by kernel_rfl
theorem st_spec_l1Needed : symFn cx f_spec_l1Needed = some tr_spec_l1Needed := by kernel_rfl
theorem st_spec_UsedBy : symFn cx f_spec_UsedBy = some tr_spec_UsedBy := by kernel_rfl
theorem st_spec_l2Has : symFn cx f_spec_l2Has = some tr_spec_l2Has := by kernel_rfl
end Go.Proofs.YthapopegchnhlabGreat
