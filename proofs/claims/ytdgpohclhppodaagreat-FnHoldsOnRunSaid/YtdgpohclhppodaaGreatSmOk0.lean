/- All trees are those of the program; no condition. -/
import Derived.Test.YtdgpohclhppodaaGreatSmSt0x0
import Derived.Test.YtdgpohclhppodaaGreatSmSt1x0
import Derived.Test.YtdgpohclhppodaaGreatSmSt2x0
import Derived.Test.YtdgpohclhppodaaGreatSmSt3x0
namespace Go.Proofs.YtdgpohclhppodaaGreat
open Go Go.Sm Go.Sm.Q
theorem find_all {α:Type} {p:Nat→α→Prop}:∀(l:List (Nat×α)),(∀x∈l,p x.1 x.2)→∀f t,(l.find? (·.1==f)).map (·.2)=some t→p f t:=by
 intro l h f t ht
 obtain ⟨x,hx,rfl⟩:=Option.map_eq_some_iff.1 ht
 have h1:=List.find?_some hx
 simp only [beq_iff_eq] at h1
 exact h1▸h x (List.mem_of_find?_eq_some hx)
theorem trees_ok:∀f t,mc.F f=some t→symFn cx f=some t:=find_all trL (by
 intro x hx
 simp only [trL,List.mem_cons,List.not_mem_nil,or_false] at hx
 rcases hx with rfl | rfl | rfl | rfl | rfl | rfl | rfl | rfl | rfl | rfl | rfl | rfl | rfl | rfl | rfl | rfl | rfl | rfl | rfl | rfl | rfl | rfl | rfl | rfl | rfl | rfl | rfl | rfl | rfl | rfl | rfl | rfl | rfl | rfl | rfl | rfl | rfl | rfl | rfl | rfl | rfl | rfl | rfl | rfl | rfl | rfl | rfl | rfl | rfl | rfl | rfl | rfl | rfl | rfl | rfl | rfl | rfl | rfl | rfl | rfl | rfl | rfl | rfl | rfl | rfl | rfl | rfl | rfl | rfl | rfl | rfl | rfl | rfl | rfl | rfl | rfl | rfl | rfl | rfl | rfl | rfl | rfl | rfl | rfl | rfl | rfl | rfl | rfl | rfl | rfl | rfl | rfl | rfl | rfl | rfl | rfl | rfl | rfl
 ·exact st_spec_l40Open
 ·exact st_spec_l40Rd_pick
 ·exact st_spec_l40Rd_num
 ·exact st_spec_l2VarOf
 ·exact st_spec_l2Const
 ·exact st_spec_l2Cond
 ·exact st_spec_l1In
 ·exact st_spec_l1One
 ·exact st_spec_l1Kind
 ·exact st_spec_KindsOf
 ·exact st_spec_TermsValid
 ·exact st_spec_l1Moved
 ·exact st_spec_Joined
 ·exact st_spec_l2When
 ·exact st_spec_l1Number
 ·exact st_spec_l1Pick
 ·exact st_spec_l1Terms
 ·exact st_spec_l2Value
 ·exact st_spec_l2Rules
 ·exact st_spec_l2System
 ·exact st_spec_l2Any
 ·exact st_spec_l2Var
 ·exact st_spec_l1Any
 ·exact st_impl_in
 ·exact st_impl_varOk
 ·exact st_impl_size
 ·exact st_impl_parts
 ·exact st_impl_kindsOf
 ·exact st_impl_kindOf
 ·exact st_impl_ruleOk
 ·exact st_impl_SystemValid
 ·exact st_impl_held
 ·exact st_impl_bit
 ·exact st_impl_do
 ·exact st_impl_eval
 ·exact st_impl_clone_int
 ·exact st_impl_first
 ·exact st_impl_inRange
 ·exact st_impl_use
 ·exact st_slices_Equal_Sint_int
 ·exact st_impl_ruleBetween
 ·exact st_spec_l2Is
 ·exact st_spec_l2Rule
 ·exact st_spec_SystemValid
 ·exact st_spec_FirstState
 ·exact st_spec_l3Copy
 ·exact st_spec_l1Held
 ·exact st_spec_l1Truth
 ·exact st_spec_l1Do
 ·exact st_spec_l1Values
 ·exact st_spec_l2Last
 ·exact st_spec_l2In
 ·exact st_spec_l2Use
 ·exact st_spec_l2Same
 ·exact st_spec_l2Less
 ·exact st_spec_l2Put
 ·exact st_spec_l2Next
 ·exact st_spec_l2Some
 ·exact st_spec_l3Laced
 ·exact st_spec_l20Asked
 ·exact st_spec_l20One
 ·exact st_spec_l20Draw
 ·exact st_spec_l20Any
 ·exact st_spec_DrawHoldsOnRun
 ·exact st_impl_factsOk
 ·exact st_impl_lassoOk
 ·exact st_slices_Concat_SSint_Sint
 ·exact st_impl_usableIn
 ·exact st_impl_follows
 ·exact st_impl_LassoValid
 ·exact st_impl_TimesValid
 ·exact st_impl_letters
 ·exact st_impl_word
 ·exact st_impl_timesOn
 ·exact st_impl_HoldsOnRun
 ·exact st_spec_l20Facts
 ·exact st_spec_l3At
 ·exact st_spec_l3Follows
 ·exact st_spec_LassoValid
 ·exact st_spec_l20Of
 ·exact st_spec_l20Step
 ·exact st_spec_TimesValid
 ·exact st_spec_l6Are
 ·exact st_spec_l20Letters
 ·exact st_spec_WordValid
 ·exact st_spec_l20Next
 ·exact st_spec_l20Later
 ·exact st_spec_l20Row
 ·exact st_spec_TimesOn
 ·exact st_spec_HoldsOn
 ·exact st_spec_HoldsOnRun
 ·exact st_impl_LettersOf
 ·exact st_impl_bitsValid
 ·exact st_impl_letterOk
 ·exact st_impl_WordValid
 ·exact st_impl_TimesOn
 ·exact st_impl_HoldsOn
 ·exact st_laws_FnHoldsOnRun)
end Go.Proofs.YtdgpohclhppodaaGreat
