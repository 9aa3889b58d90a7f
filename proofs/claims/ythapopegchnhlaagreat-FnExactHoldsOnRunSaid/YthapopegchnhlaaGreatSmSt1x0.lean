/- Each function comes to its tree; no condition. -/
import Derived.Test.YthapopegchnhlaaGreatSmTab0
namespace Go.Proofs.YthapopegchnhlaaGreat
open Go Go.Sm Go.Sm.Q
set_option maxRecDepth 100000
theorem st_spec_l3At : symFn cx f_spec_l3At = some tr_spec_l3At := by kernel_rfl
theorem st_spec_FirstState : symFn cx f_spec_FirstState = some tr_spec_FirstState := by kernel_rfl
theorem st_spec_l2Same : symFn cx f_spec_l2Same = some tr_spec_l2Same := by kernel_rfl
theorem st_spec_l2In : symFn cx f_spec_l2In = some tr_spec_l2In := by kernel_rfl
theorem st_spec_l1Held : symFn cx f_spec_l1Held = some tr_spec_l1Held := by kernel_rfl
theorem st_spec_l1Truth : symFn cx f_spec_l1Truth = some tr_spec_l1Truth := by kernel_rfl
theorem st_spec_l1Do : symFn cx f_spec_l1Do = some tr_spec_l1Do := by kernel_rfl
theorem st_spec_l1Values : symFn cx f_spec_l1Values = some tr_spec_l1Values := by kernel_rfl
theorem st_spec_l2Last : symFn cx f_spec_l2Last = some tr_spec_l2Last := by kernel_rfl
theorem st_spec_l2Use : symFn cx f_spec_l2Use = some tr_spec_l2Use := by kernel_rfl
theorem st_spec_l2Less : symFn cx f_spec_l2Less = some tr_spec_l2Less := by kernel_rfl
theorem st_spec_l2Put : symFn cx f_spec_l2Put = some tr_spec_l2Put := by kernel_rfl
theorem st_spec_l2Next : symFn cx f_spec_l2Next = some tr_spec_l2Next := by kernel_rfl
theorem st_spec_l3Follows : symFn cx f_spec_l3Follows = some tr_spec_l3Follows := by kernel_rfl
theorem st_spec_LassoValid : symFn cx f_spec_LassoValid = some tr_spec_LassoValid := by kernel_rfl
theorem st_spec_l20Of : symFn cx f_spec_l20Of = some tr_spec_l20Of := by kernel_rfl
theorem st_spec_l20One : symFn cx f_spec_l20One = some tr_spec_l20One := by kernel_rfl
theorem st_spec_l20Step : symFn cx f_spec_l20Step = some tr_spec_l20Step := by kernel_rfl
theorem st_spec_TimesValid : symFn cx f_spec_TimesValid = some tr_spec_TimesValid := by kernel_rfl
theorem st_spec_l6Are : symFn cx f_spec_l6Are = some tr_spec_l6Are := by kernel_rfl
theorem st_spec_l20Letters : symFn cx f_spec_l20Letters = some tr_spec_l20Letters := by kernel_rfl
theorem st_spec_WordValid : symFn cx f_spec_WordValid = some tr_spec_WordValid := by kernel_rfl
theorem st_spec_l20Next : symFn cx f_spec_l20Next = some tr_spec_l20Next := by kernel_rfl
theorem st_spec_l20Later : symFn cx f_spec_l20Later = some tr_spec_l20Later := by kernel_rfl
theorem st_spec_l20Row : symFn cx f_spec_l20Row = some tr_spec_l20Row := by kernel_rfl
theorem st_spec_TimesOn : symFn cx f_spec_TimesOn = some tr_spec_TimesOn := by kernel_rfl
theorem st_spec_HoldsOn : symFn cx f_spec_HoldsOn = some tr_spec_HoldsOn := by kernel_rfl
theorem st_spec_HoldsOnRun : symFn cx f_spec_HoldsOnRun = some tr_spec_HoldsOnRun := by kernel_rfl
theorem st_impl_in : symFn cx f_impl_in = some tr_impl_in := by kernel_rfl
theorem st_impl_varOk : symFn cx f_impl_varOk = some tr_impl_varOk := by kernel_rfl
end Go.Proofs.YthapopegchnhlaaGreat
