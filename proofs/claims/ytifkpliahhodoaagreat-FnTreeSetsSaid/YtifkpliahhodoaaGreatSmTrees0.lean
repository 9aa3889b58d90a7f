/- What the functions of the law come to, as trees; printed by a program; no condition. -/
import Derived.Test.YtifkpliahhodoaaGreatSmLib4
namespace Go.Proofs.YtifkpliahhodoaaGreat
open Go Go.Sm Go.Sm.Q
abbrev f_spec_l1In:Nat:=150
abbrev f_spec_l1One:Nat:=217
abbrev f_spec_l1Kind:Nat:=208
abbrev f_spec_KindsOf:Nat:=196
abbrev f_spec_l2Is:Nat:=165
abbrev f_spec_l2Var:Nat:=139
abbrev f_spec_l2Rule:Nat:=151
abbrev f_spec_SystemValid:Nat:=82
abbrev f_spec_l20Facts:Nat:=110
abbrev f_spec_l24One:Nat:=106
abbrev f_spec_l24Step:Nat:=166
abbrev f_spec_TreesValid:Nat:=111
abbrev f_spec_l24Asked:Nat:=52
abbrev f_spec_SizeOf:Nat:=35
abbrev f_spec_FirstState:Nat:=75
abbrev f_spec_l3Copy:Nat:=168
abbrev f_spec_l4State:Nat:=113
abbrev f_spec_l1Held:Nat:=222
abbrev f_spec_l1Truth:Nat:=223
abbrev f_spec_l1Do:Nat:=209
abbrev f_spec_l1Values:Nat:=197
abbrev f_spec_l2Last:Nat:=167
abbrev f_spec_l2In:Nat:=89
abbrev f_spec_l2Use:Nat:=206
abbrev f_spec_l2Same:Nat:=220
abbrev f_spec_l2Less:Nat:=221
abbrev f_spec_l2Put:Nat:=207
abbrev f_spec_l2Next:Nat:=195
abbrev f_spec_l4Number:Nat:=74
abbrev f_spec_l4Steps:Nat:=155
abbrev f_spec_l22Onward:Nat:=90
abbrev f_spec_l20Of:Nat:=112
abbrev f_spec_l24Not:Nat:=169
abbrev f_spec_l24Both:Nat:=170
abbrev f_spec_l4Ahead:Nat:=171
abbrev f_spec_l24Until:Nat:=172
abbrev f_spec_l24Stay:Nat:=173
abbrev f_spec_l24All:Nat:=174
abbrev f_spec_l24Row:Nat:=114
abbrev f_spec_l24Rows:Nat:=53
abbrev f_spec_l4List:Nat:=54
abbrev f_spec_TreeSets:Nat:=12
abbrev f_impl_in:Nat:=143
abbrev f_impl_varOk:Nat:=146
abbrev f_impl_size:Nat:=81
abbrev f_impl_parts:Nat:=210
abbrev f_impl_kindsOf:Nat:=199
abbrev f_impl_kindOf:Nat:=177
abbrev f_impl_ruleOk:Nat:=149
abbrev f_impl_SystemValid:Nat:=80
abbrev f_impl_factsOk:Nat:=118
abbrev f_impl_treeParts:Nat:=178
abbrev f_impl_TreesValid:Nat:=119
abbrev f_impl_askTree:Nat:=59
abbrev f_impl_stateAt:Nat:=96
abbrev f_impl_held:Nat:=211
abbrev f_impl_bit:Nat:=212
abbrev f_impl_do:Nat:=200
abbrev f_impl_eval:Nat:=183
abbrev f_impl_clone_int:Nat:=72
abbrev f_impl_inRange:Nat:=94
abbrev f_impl_use:Nat:=191
abbrev f_cmp_isNaN_int:Nat:=218
abbrev f_cmp_Compare_int:Nat:=203
abbrev f_slices_Compare_Sint_int:Nat:=193
abbrev f_slices_Reverse_SSint_Sint:Nat:=225
abbrev f_impl_clone_Sint:Nat:=64
abbrev f_impl_nextStates:Nat:=153
abbrev f_impl_number:Nat:=77
abbrev f_impl_nexts:Nat:=85
abbrev f_impl_followers:Nat:=61
abbrev f_impl_letters:Nat:=133
abbrev f_impl_lettersAll:Nat:=62
abbrev f_impl_some:Nat:=123
abbrev f_impl_not:Nat:=124
abbrev f_slices_Equal_Sbool_bool:Nat:=179
abbrev f_impl_treeRows:Nat:=60
abbrev f_impl_listOf:Nat:=63
abbrev f_impl_TreeSets:Nat:=16
abbrev f_spec_l40Open:Nat:=137
abbrev f_spec_l40Rd_pick:Nat:=104
abbrev f_spec_l40Rd_num:Nat:=105
abbrev f_spec_l2VarOf:Nat:=186
abbrev f_spec_l2Const:Nat:=185
abbrev f_spec_l2Cond:Nat:=140
abbrev f_spec_TermsValid:Nat:=226
abbrev f_spec_l1Moved:Nat:=227
abbrev f_spec_Joined:Nat:=224
abbrev f_spec_l2When:Nat:=213
abbrev f_spec_l1Number:Nat:=215
abbrev f_spec_l1Pick:Nat:=216
abbrev f_spec_l1Terms:Nat:=202
abbrev f_spec_l2Value:Nat:=214
abbrev f_spec_l2Rules:Nat:=201
abbrev f_spec_l2System:Nat:=184
abbrev f_spec_l2Any:Nat:=138
abbrev f_spec_l1Any:Nat:=187
abbrev f_spec_l20Asked:Nat:=141
abbrev f_spec_l24Draw:Nat:=188
abbrev f_spec_l24Any:Nat:=142
abbrev f_spec_l24Ask:Nat:=79
abbrev f_spec_DrawTreeSets:Nat:=33
abbrev f_impl_SizeOf:Nat:=34
abbrev f_laws_wcInts:Nat:=36
abbrev f_impl_setOk:Nat:=152
abbrev f_impl_SetValid:Nat:=83
abbrev f_impl_over:Nat:=84
abbrev f_impl_NextNumbers:Nat:=37
abbrev f_impl_marks:Nat:=154
abbrev f_impl_SetBoth:Nat:=38
abbrev f_impl_SetWithout:Nat:=39
abbrev f_laws_wcHas:Nat:=40
abbrev f_laws_FnTreeSets:Nat:=6
abbrev f_slices_Insert_SSint_Sint:Nat:=194
def tr_spec_l1In:Tr:=.ite (ge (v I 0) (v I 1))
 (.ret [a (le (v I 0) (v I 2))])
 (.ret [a (k false)])
def tr_spec_l1One:Tr:=.ret [a (eq (v I 0) (c 7))]
def tr_spec_l1Kind:Tr:=.join
 (.ite (eq (v I 0) (c 0))
 (.call f_spec_l1In [a (v I 1),a (c (-9999)),a (c 9999)] 100512
 (.ite (v B 100512)
 (.ite (eq (v I 2) (c 0))
 (.ite (eq (v I 3) (c 0))
 (.ret [a (c 1)])
 (.jump 0 [a (v (L I) 4),a (v I 5),a (v I 0),a (v I 1),a (v I 2),a (v I 3)]))
 (.jump 0 [a (v (L I) 4),a (v I 5),a (v I 0),a (v I 1),a (v I 2),a (v I 3)]))
 (.jump 0 [a (v (L I) 4),a (v I 5),a (v I 0),a (v I 1),a (v I 2),a (v I 3)])))
 (.jump 0 [a (v (L I) 4),a (v I 5),a (v I 0),a (v I 1),a (v I 2),a (v I 3)]))
 (.join
 (.ite (eq (v I 2) (c 1))
 (.call f_spec_l1In [a (v I 3),a (c 0),a (sub (v I 1) (c 1))] 519
 (.ite (v B 519)
 (.ite (eq (v I 4) (c 0))
 (.ite (eq (v I 5) (c 0))
 (.ret [a (c 1)])
 (.jump 0 [a (v (L I) 0),a (v I 2),a (v I 3),a (v I 4),a (v I 5)]))
 (.jump 0 [a (v (L I) 0),a (v I 2),a (v I 3),a (v I 4),a (v I 5)]))
 (.jump 0 [a (v (L I) 0),a (v I 2),a (v I 3),a (v I 4),a (v I 5)])))
 (.jump 0 [a (v (L I) 0),a (v I 2),a (v I 3),a (v I 4),a (v I 5)]))
 (.call f_spec_l1In [a (v I 1),a (c 2),a (c 9)] 134
 (.ite (nt (v B 134))
 (.ret [a (c 0)])
 (.ite (ne (v I 2) (c 0))
 (.ret [a (c 0)])
 (.call f_spec_l1In [a (v I 3),a (c 0),a (sub (ln (v (L I) 0)) (c 1))] 966
 (.ite (nt (v B 966))
 (.ret [a (c 0)])
 (.call f_spec_l1In [a (v I 4),a (c 0),a (sub (ln (v (L I) 0)) (c 1))] 1542
 (.ite (nt (v B 1542))
 (.ret [a (c 0)])
 (.join
 (.ite (ge (v I 1) (c 7))
 (.jump 0 [a (v (L I) 0),a (c 2),a (v I 1),a (v I 2),a (v I 3),a (v I 4)])
 (.jump 0 [a (v (L I) 0),a (c 1),a (v I 1),a (v I 2),a (v I 3),a (v I 4)]))
 (.join
 (.guard (le (c 0) (v I 4))
 (.guard (lt (v I 4) (ln (v (L I) 0)))
 (.ite (ne (ix (v (L I) 0) (v I 4)) (v I 1))
 (.ret [a (c 0)])
 (.guard (le (c 0) (v I 5))
 (.guard (lt (v I 5) (ln (v (L I) 0)))
 (.ite (ne (ix (v (L I) 0) (v I 5)) (v I 1))
 (.ret [a (c 0)])
 (.call f_spec_l1One [a (v I 2)] 1223
 (.ite (v B 1223)
 (.ite (ne (v I 5) (v I 4))
 (.ret [a (c 0)])
 (.jump 0 [a (v I 2),a (v I 3),a (v I 4),a (v I 5)]))
 (.jump 0 [a (v I 2),a (v I 3),a (v I 4),a (v I 5)])))))))))
 (.ite (ge (v I 0) (c 5))
 (.ret [a (c 2)])
 (.ret [a (c 1)]))))))))))))
def tr_spec_KindsOf:Tr:=.call f_spec_l1In [a (v I 1),a (c 0),a (c 5)] 100128
 (.ite (nt (v B 100128))
 (.ret [a (nl I)])
 (.call f_spec_l1In [a (ln (v (L T4) 0)),a (c 1),a (c 40)] 100448
 (.ite (nt (v B 100448))
 (.ret [a (nl I)])
 (.loop [a (v (L T4) 0),a (v I 1),a (c 0),a (nl I)]
 (.ite (lt (v I 2) (ln (v (L T4) 0)))
 (.guard (le (c 0) (v I 2))
 (.guard (lt (v I 2) (ln (v (L T4) 0)))
 (.call f_spec_l1Kind [a (f (ix (v (L T4) 0) (v I 2))),a (f (s (ix (v (L T4) 0) (v I 2)))),a (f (s (s (ix (v (L T4) 0) (v I 2))))),a (s (s (s (ix (v (L T4) 0) (v I 2))))),a (v (L I) 3),a (v I 1)] 645
 (.ite (eq (v I 645) (c 0))
 (.ret [a (nl I)])
 (.guard (le (ln (v (L I) 3)) (c 549755813888))
 (.guard (le (ln (one (v I 645))) (c 549755813888))
 (.jump 0 [a (v (L T4) 0),a (v I 1),a (add (v I 2) (c 1)),a (app (v (L I) 3) (one (v I 645)))])))))))
 (.ret [a (v (L I) 3)]))))))
def tr_spec_l2Is:Tr:=.call f_spec_KindsOf [a (v (L T4) 0),a (v I 1)] 100192
 (.ite (gt (ln (v (L I) 100192)) (c 0))
 (.guard (le (c 0) (sub (ln (v (L I) 100192)) (c 1)))
 (.guard (lt (sub (ln (v (L I) 100192)) (c 1)) (ln (v (L I) 100192)))
 (.ret [a (eq (ix (v (L I) 100192) (sub (ln (v (L I) 100192)) (c 1))) (v I 2))])))
 (.ret [a (k false)]))
def tr_spec_l2Var:Tr:=.call f_spec_l1In [a (v I 0),a (c (-9999)),a (c 9999)] 100256
 (.ite (v B 100256)
 (.call f_spec_l1In [a (v I 1),a (v I 0),a (c 9999)] 100640
 (.ite (v B 100640)
 (.ite (lt (sub (v I 1) (v I 0)) (c 20))
 (.call f_spec_l1In [a (v I 2),a (v I 0),a (v I 1)] 101728
 (.ret [a (v B 101728)]))
 (.ret [a (k false)]))
 (.ret [a (k false)])))
 (.ret [a (k false)]))
def tr_spec_l2Rule:Tr:=.call f_spec_l2Is [a (v (L T4) 0),a (v I 3),a (c 2)] 100320
 (.ite (nt (v B 100320))
 (.ret [a (k false)])
 (.ite (ne (ln (v (L I) 1)) (ln (v (L (L T4)) 2)))
 (.ret [a (k false)])
 (.ite (gt (ln (v (L I) 1)) (v I 3))
 (.ret [a (k false)])
 (.loop [a (v I 3),a (c 0),a (v (L T4) 0),a (v (L I) 1),a (v (L (L T4)) 2)]
 (.ite (lt (v I 1) (ln (v (L I) 3)))
 (.join
 (.guard (le (c 0) (v I 1))
 (.guard (lt (v I 1) (ln (v (L I) 3)))
 (.call f_spec_l1In [a (ix (v (L I) 3) (v I 1)),a (c 0),a (sub (v I 0) (c 1))] 774
 (.ite (nt (v B 774))
 (.ret [a (k false)])
 (.ite (gt (v I 1) (c 0))
 (.guard (le (c 0) (v I 1))
 (.guard (lt (v I 1) (ln (v (L I) 3)))
 (.guard (le (c 0) (sub (v I 1) (c 1)))
 (.guard (lt (sub (v I 1) (c 1)) (ln (v (L I) 3)))
 (.ite (le (ix (v (L I) 3) (v I 1)) (ix (v (L I) 3) (sub (v I 1) (c 1))))
 (.ret [a (k false)])
 (.guard (le (c 0) (v I 1))
 (.guard (lt (v I 1) (ln (v (L (L T4)) 4)))
 (.call f_spec_l2Is [a (ix (v (L (L T4)) 4) (v I 1)),a (v I 0),a (c 1)] 2502
 (.ite (nt (v B 2502))
 (.ret [a (k false)])
 (.jump 0 [a (v I 0),a (v I 1),a (v (L T4) 2),a (v (L I) 3),a (v (L (L T4)) 4)]))))))))))
 (.guard (le (c 0) (v I 1))
 (.guard (lt (v I 1) (ln (v (L (L T4)) 4)))
 (.call f_spec_l2Is [a (ix (v (L (L T4)) 4) (v I 1)),a (v I 0),a (c 1)] 2502
 (.ite (nt (v B 2502))
 (.ret [a (k false)])
 (.jump 0 [a (v I 0),a (v I 1),a (v (L T4) 2),a (v (L I) 3),a (v (L (L T4)) 4)]))))))))))
 (.jump 0 [a (v I 0),a (add (v I 1) (c 1)),a (v (L T4) 2),a (v (L I) 3),a (v (L (L T4)) 4)]))
 (.ret [a (k true)]))))))
def tr_spec_SystemValid:Tr:=.call f_spec_l1In [a (ln (v (L V3) 0)),a (c 1),a (c 5)] 100320
 (.ite (nt (v B 100320))
 (.ret [a (k false)])
 (.ite (gt (ln (v (L TR) 1)) (c 8))
 (.ret [a (k false)])
 (.loop [a (c 1),a (c 0),a (v (L V3) 0),a (v (L TR) 1)]
 (.ite (lt (v I 1) (ln (v (L V3) 2)))
 (.guard (le (c 0) (v I 1))
 (.guard (lt (v I 1) (ln (v (L V3) 2)))
 (.call f_spec_l2Var [a (f (ix (v (L V3) 2) (v I 1))),a (f (s (ix (v (L V3) 2) (v I 1)))),a (s (s (ix (v (L V3) 2) (v I 1))))] 645
 (.ite (nt (v B 645))
 (.ret [a (k false)])
 (.guard (le (c 0) (v I 1))
 (.guard (lt (v I 1) (ln (v (L V3) 2)))
 (.guard (le (c 0) (v I 1))
 (.guard (lt (v I 1) (ln (v (L V3) 2)))
 (.jump 0 [a (mul (v I 0) (add (sub (f (s (ix (v (L V3) 2) (v I 1)))) (f (ix (v (L V3) 2) (v I 1)))) (c 1))),a (add (v I 1) (c 1)),a (v (L V3) 2),a (v (L TR) 3)])))))))))
 (.loop [a (v I 0),a (c 0),a (v (L V3) 2),a (v (L TR) 3)]
 (.ite (lt (v I 1) (ln (v (L TR) 3)))
 (.guard (le (c 0) (v I 1))
 (.guard (lt (v I 1) (ln (v (L TR) 3)))
 (.call f_spec_l2Rule [a (f (ix (v (L TR) 3) (v I 1))),a (f (s (ix (v (L TR) 3) (v I 1)))),a (s (s (ix (v (L TR) 3) (v I 1)))),a (ln (v (L V3) 2))] 837
 (.ite (nt (v B 837))
 (.ret [a (k false)])
 (.jump 0 [a (v I 0),a (add (v I 1) (c 1)),a (v (L V3) 2),a (v (L TR) 3)])))))
 (.ret [a (le (v I 0) (c 400))])))))))
def tr_spec_l20Facts:Tr:=.loop [a (v (L (L T4)) 2),a (c 0),a (v (L V3) 0),a (v (L TR) 1)]
 (.ite (lt (v I 1) (ln (v (L (L T4)) 0)))
 (.guard (le (c 0) (v I 1))
 (.guard (lt (v I 1) (ln (v (L (L T4)) 0)))
 (.call f_spec_l2Is [a (ix (v (L (L T4)) 0) (v I 1)),a (ln (v (L V3) 2)),a (c 2)] 709
 (.ite (nt (v B 709))
 (.ret [a (k false)])
 (.jump 0 [a (v (L (L T4)) 0),a (add (v I 1) (c 1)),a (v (L V3) 2),a (v (L TR) 3)])))))
 (.call f_spec_SystemValid [a (v (L V3) 2),a (v (L TR) 3)] 325
 (.ite (v B 325)
 (.ret [a (le (ln (v (L (L T4)) 0)) (c 4))])
 (.ret [a (k false)]))))
def tr_spec_l24One:Tr:=.ite (eq (v I 0) (c 2))
 (.ret [a (k true)])
 (.ite (eq (v I 0) (c 5))
 (.ret [a (k true)])
 (.ite (eq (v I 0) (c 7))
 (.ret [a (k true)])
 (.ite (eq (v I 0) (c 8))
 (.ret [a (k true)])
 (.ret [a (eq (v I 0) (c 10))]))))
def tr_spec_l24Step:Tr:=.ite (eq (v I 0) (c 0))
 (.ite (eq (v I 1) (c 0))
 (.ite (eq (v I 2) (c 0))
 (.ret [a (eq (v I 3) (c 0))])
 (.ret [a (k false)]))
 (.ret [a (k false)]))
 (.ite (eq (v I 0) (c 1))
 (.call f_spec_l1In [a (v I 1),a (c 0),a (sub (v I 5) (c 1))] 100768
 (.ite (v B 100768)
 (.ite (eq (v I 2) (c 0))
 (.ret [a (eq (v I 3) (c 0))])
 (.ret [a (k false)]))
 (.ret [a (k false)])))
 (.call f_spec_l1In [a (v I 0),a (c 2),a (c 10)] 100640
 (.ite (nt (v B 100640))
 (.ret [a (k false)])
 (.ite (ne (v I 1) (c 0))
 (.ret [a (k false)])
 (.call f_spec_l1In [a (v I 2),a (c 0),a (sub (v I 4) (c 1))] 101408
 (.ite (nt (v B 101408))
 (.ret [a (k false)])
 (.call f_spec_l1In [a (v I 3),a (c 0),a (sub (v I 4) (c 1))] 101920
 (.ite (nt (v B 101920))
 (.ret [a (k false)])
 (.call f_spec_l24One [a (v I 0)] 102240
 (.ite (nt (v B 102240))
 (.ret [a (k true)])
 (.ret [a (eq (v I 3) (v I 2))])))))))))))
def tr_spec_TreesValid:Tr:=.call f_spec_l1In [a (v I 1),a (c 0),a (c 4)] 100128
 (.ite (nt (v B 100128))
 (.ret [a (k false)])
 (.call f_spec_l1In [a (ln (v (L T4) 0)),a (c 1),a (c 24)] 100448
 (.ite (nt (v B 100448))
 (.ret [a (k false)])
 (.loop [a (v (L T4) 0),a (v I 1),a (c 0)]
 (.ite (lt (v I 2) (ln (v (L T4) 0)))
 (.guard (le (c 0) (v I 2))
 (.guard (lt (v I 2) (ln (v (L T4) 0)))
 (.call f_spec_l24Step [a (f (ix (v (L T4) 0) (v I 2))),a (f (s (ix (v (L T4) 0) (v I 2)))),a (f (s (s (ix (v (L T4) 0) (v I 2))))),a (s (s (s (ix (v (L T4) 0) (v I 2))))),a (v I 2),a (v I 1)] 643
 (.ite (nt (v B 643))
 (.ret [a (k false)])
 (.jump 0 [a (v (L T4) 0),a (v I 1),a (add (v I 2) (c 1))])))))
 (.ret [a (k true)]))))))
def tr_spec_l24Asked:Tr:=.call f_spec_l20Facts [a (v (L V3) 0),a (v (L TR) 1),a (v (L (L T4)) 2)] 100256
 (.ite (v B 100256)
 (.call f_spec_TreesValid [a (v (L T4) 3),a (ln (v (L (L T4)) 2))] 100576
 (.ret [a (v B 100576)]))
 (.ret [a (k false)]))
def tr_spec_SizeOf:Tr:=.call f_spec_SystemValid [a (v (L V3) 0),a (v (L TR) 1)] 100192
 (.ite (nt (v B 100192))
 (.ret [a (c 0)])
 (.loop [a (c 1),a (c 0),a (v (L V3) 0),a (v (L TR) 1)]
 (.ite (lt (v I 1) (ln (v (L V3) 2)))
 (.guard (le (c 0) (v I 1))
 (.guard (lt (v I 1) (ln (v (L V3) 2)))
 (.guard (le (c 0) (v I 1))
 (.guard (lt (v I 1) (ln (v (L V3) 2)))
 (.jump 0 [a (mul (v I 0) (add (sub (f (s (ix (v (L V3) 2) (v I 1)))) (f (ix (v (L V3) 2) (v I 1)))) (c 1))),a (add (v I 1) (c 1)),a (v (L V3) 2),a (v (L TR) 3)])))))
 (.ret [a (v I 0)]))))
def tr_spec_FirstState:Tr:=.join
 (.loop [a (c 0),a (v (L V3) 0),a (v (L TR) 1),a (nl I)]
 (.ite (lt (v I 0) (ln (v (L V3) 1)))
 (.call f_spec_SystemValid [a (v (L V3) 1),a (v (L TR) 2)] 454
 (.ite (v B 454)
 (.guard (le (c 0) (v I 0))
 (.guard (lt (v I 0) (ln (v (L V3) 1)))
 (.guard (le (ln (v (L I) 3)) (c 549755813888))
 (.guard (le (ln (one (s (s (ix (v (L V3) 1) (v I 0)))))) (c 549755813888))
 (.jump 0 [a (add (v I 0) (c 1)),a (v (L V3) 1),a (v (L TR) 2),a (app (v (L I) 3) (one (s (s (ix (v (L V3) 1) (v I 0))))))])))))
 (.jump 1 [a (v (L I) 3)])))
 (.jump 1 [a (v (L I) 3)])))
 (.ret [a (v (L I) 0)])
def tr_spec_l3Copy:Tr:=.loop [a (v (L I) 0),a (c 0),a (nl I)]
 (.ite (lt (v I 1) (ln (v (L I) 0)))
 (.guard (le (c 0) (v I 1))
 (.guard (lt (v I 1) (ln (v (L I) 0)))
 (.guard (le (ln (v (L I) 2)) (c 549755813888))
 (.guard (le (ln (one (ix (v (L I) 0) (v I 1)))) (c 549755813888))
 (.jump 0 [a (v (L I) 0),a (add (v I 1) (c 1)),a (app (v (L I) 2) (one (ix (v (L I) 0) (v I 1))))])))))
 (.ret [a (v (L I) 2)]))
def tr_spec_l4State:Tr:=.call f_spec_FirstState [a (v (L V3) 0),a (v (L TR) 1)] 100192
 (.call f_spec_l3Copy [a (v (L I) 100192)] 100256
 (.loop [a (v I 2),a (sub (ln (v (L V3) 0)) (c 1)),a (v (L V3) 0),a (v (L TR) 1),a (v (L I) 100256)]
 (.ite (ge (v I 1) (c 0))
 (.guard (le (c 0) (v I 1))
 (.guard (lt (v I 1) (ln (v (L V3) 2)))
 (.guard (le (c 0) (v I 1))
 (.guard (lt (v I 1) (ln (v (L V3) 2)))
 (.guard (le (c 0) (v I 1))
 (.guard (lt (v I 1) (ln (v (L V3) 2)))
 (.guard (ne (add (sub (f (s (ix (v (L V3) 2) (v I 1)))) (f (ix (v (L V3) 2) (v I 1)))) (c 1)) (c 0))
 (.guard (le (c 0) (v I 1))
 (.guard (lt (v I 1) (ln (v (L I) 4)))
 (.guard (ne (add (sub (f (s (ix (v (L V3) 2) (v I 1)))) (f (ix (v (L V3) 2) (v I 1)))) (c 1)) (c 0))
 (.jump 0 [a (quo (v I 0) (add (sub (f (s (ix (v (L V3) 2) (v I 1)))) (f (ix (v (L V3) 2) (v I 1)))) (c 1))),a (sub (v I 1) (c 1)),a (v (L V3) 2),a (v (L TR) 3),a (st (v (L I) 4) (v I 1) (add (f (ix (v (L V3) 2) (v I 1))) (rem (v I 0) (add (sub (f (s (ix (v (L V3) 2) (v I 1)))) (f (ix (v (L V3) 2) (v I 1)))) (c 1)))))])))))))))))
 (.ret [a (v (L I) 4)]))))
def tr_spec_l1Held:Tr:=.ite (gt (v I 0) (c 9999))
 (.ret [a (c 9999)])
 (.ite (lt (v I 0) (c (-9999)))
 (.ret [a (c (-9999))])
 (.ret [a (v I 0)]))
def tr_spec_l1Truth:Tr:=.ite (v B 0)
 (.ret [a (c 1)])
 (.ret [a (c 0)])
def tr_spec_l1Do:Tr:=.ite (eq (v I 0) (c 2))
 (.call f_spec_l1Held [a (add (v I 1) (v I 2))] 100384
 (.ret [a (v I 100384)]))
 (.ite (eq (v I 0) (c 3))
 (.call f_spec_l1Held [a (sub (v I 1) (v I 2))] 100512
 (.ret [a (v I 100512)]))
 (.ite (eq (v I 0) (c 4))
 (.call f_spec_l1Held [a (mul (v I 1) (v I 2))] 100640
 (.ret [a (v I 100640)]))
 (.ite (eq (v I 0) (c 5))
 (.call f_spec_l1Truth [a (lt (v I 1) (v I 2))] 100768
 (.ret [a (v I 100768)]))
 (.ite (eq (v I 0) (c 6))
 (.call f_spec_l1Truth [a (eq (v I 1) (v I 2))] 100896
 (.ret [a (v I 100896)]))
 (.ite (eq (v I 0) (c 7))
 (.ret [a (sub (c 1) (v I 1))])
 (.ite (eq (v I 0) (c 8))
 (.ret [a (mul (v I 1) (v I 2))])
 (.call f_spec_l1Truth [a (gt (add (v I 1) (v I 2)) (c 0))] 101216
 (.ret [a (v I 101216)]))))))))
def tr_spec_l1Values:Tr:=.loop [a (v (L T4) 0),a (v (L I) 1),a (c 0),a (nl I)]
 (.ite (lt (v I 2) (ln (v (L T4) 0)))
 (.join
 (.guard (le (c 0) (v I 2))
 (.guard (lt (v I 2) (ln (v (L T4) 0)))
 (.ite (eq (f (ix (v (L T4) 0) (v I 2))) (c 0))
 (.guard (le (ln (v (L I) 3)) (c 549755813888))
 (.guard (le (ln (one (f (s (ix (v (L T4) 0) (v I 2)))))) (c 549755813888))
 (.jump 0 [a (v (L T4) 0),a (v (L I) 1),a (v I 2),a (app (v (L I) 3) (one (f (s (ix (v (L T4) 0) (v I 2))))))])))
 (.ite (eq (f (ix (v (L T4) 0) (v I 2))) (c 1))
 (.guard (le (c 0) (f (s (ix (v (L T4) 0) (v I 2)))))
 (.guard (lt (f (s (ix (v (L T4) 0) (v I 2)))) (ln (v (L I) 1)))
 (.guard (le (ln (v (L I) 3)) (c 549755813888))
 (.guard (le (ln (one (ix (v (L I) 1) (f (s (ix (v (L T4) 0) (v I 2))))))) (c 549755813888))
 (.jump 0 [a (v (L T4) 0),a (v (L I) 1),a (v I 2),a (app (v (L I) 3) (one (ix (v (L I) 1) (f (s (ix (v (L T4) 0) (v I 2)))))))])))))
 (.guard (le (c 0) (f (s (s (ix (v (L T4) 0) (v I 2))))))
 (.guard (lt (f (s (s (ix (v (L T4) 0) (v I 2))))) (ln (v (L I) 3)))
 (.guard (le (c 0) (s (s (s (ix (v (L T4) 0) (v I 2))))))
 (.guard (lt (s (s (s (ix (v (L T4) 0) (v I 2))))) (ln (v (L I) 3)))
 (.call f_spec_l1Do [a (f (ix (v (L T4) 0) (v I 2))),a (ix (v (L I) 3) (f (s (s (ix (v (L T4) 0) (v I 2)))))),a (ix (v (L I) 3) (s (s (s (ix (v (L T4) 0) (v I 2))))))] 1861
 (.guard (le (ln (v (L I) 3)) (c 549755813888))
 (.guard (le (ln (one (v I 1861))) (c 549755813888))
 (.jump 0 [a (v (L T4) 0),a (v (L I) 1),a (v I 2),a (app (v (L I) 3) (one (v I 1861)))]))))))))))))
 (.jump 0 [a (v (L T4) 0),a (v (L I) 1),a (add (v I 2) (c 1)),a (v (L I) 3)]))
 (.ret [a (v (L I) 3)]))
def tr_spec_l2Last:Tr:=.call f_spec_l1Values [a (v (L T4) 0),a (v (L I) 1)] 100192
 (.guard (le (c 0) (sub (ln (v (L T4) 0)) (c 1)))
 (.guard (lt (sub (ln (v (L T4) 0)) (c 1)) (ln (v (L I) 100192)))
 (.ret [a (ix (v (L I) 100192) (sub (ln (v (L T4) 0)) (c 1)))])))
def tr_spec_l2In:Tr:=.ite (ne (ln (v (L I) 2)) (ln (v (L V3) 0)))
 (.ret [a (k false)])
 (.loop [a (v (L I) 2),a (c 0),a (v (L V3) 0),a (v (L TR) 1)]
 (.ite (lt (v I 1) (ln (v (L I) 0)))
 (.guard (le (c 0) (v I 1))
 (.guard (lt (v I 1) (ln (v (L I) 0)))
 (.guard (le (c 0) (v I 1))
 (.guard (lt (v I 1) (ln (v (L V3) 2)))
 (.guard (le (c 0) (v I 1))
 (.guard (lt (v I 1) (ln (v (L V3) 2)))
 (.call f_spec_l1In [a (ix (v (L I) 0) (v I 1)),a (f (ix (v (L V3) 2) (v I 1))),a (f (s (ix (v (L V3) 2) (v I 1))))] 1285
 (.ite (nt (v B 1285))
 (.ret [a (k false)])
 (.jump 0 [a (v (L I) 0),a (add (v I 1) (c 1)),a (v (L V3) 2),a (v (L TR) 3)])))))))))
 (.ret [a (k true)])))
def tr_spec_l2Use:Tr:=.guard (le (c 0) (v I 3))
 (.guard (lt (v I 3) (ln (v (L TR) 1)))
 (.call f_spec_l2Last [a (f (ix (v (L TR) 1) (v I 3))),a (v (L I) 2)] 100768
 (.ite (eq (v I 100768) (c 0))
 (.ret [a (nl I)])
 (.loop [a (v (L I) 2),a (c 0),a (v (L V3) 0),a (v (L TR) 1),a (f (ix (v (L TR) 1) (v I 3))),a (f (s (ix (v (L TR) 1) (v I 3)))),a (s (s (ix (v (L TR) 1) (v I 3)))),a (nl I)]
 (.ite (lt (v I 1) (ln (v (L I) 0)))
 (.guard (le (c 0) (v I 1))
 (.guard (lt (v I 1) (ln (v (L I) 0)))
 (.guard (le (ln (v (L I) 7)) (c 549755813888))
 (.guard (le (ln (one (ix (v (L I) 0) (v I 1)))) (c 549755813888))
 (.jump 0 [a (v (L I) 0),a (add (v I 1) (c 1)),a (v (L V3) 2),a (v (L TR) 3),a (v (L T4) 4),a (v (L I) 5),a (v (L (L T4)) 6),a (app (v (L I) 7) (one (ix (v (L I) 0) (v I 1))))])))))
 (.loop [a (v (L I) 0),a (c 0),a (v (L V3) 2),a (v (L TR) 3),a (v (L T4) 4),a (v (L I) 5),a (v (L (L T4)) 6),a (v (L I) 7)]
 (.ite (lt (v I 1) (ln (v (L I) 5)))
 (.guard (le (c 0) (v I 1))
 (.guard (lt (v I 1) (ln (v (L I) 5)))
 (.guard (le (c 0) (v I 1))
 (.guard (lt (v I 1) (ln (v (L (L T4)) 6)))
 (.call f_spec_l2Last [a (ix (v (L (L T4)) 6) (v I 1)),a (v (L I) 0)] 1099
 (.guard (le (c 0) (ix (v (L I) 5) (v I 1)))
 (.guard (lt (ix (v (L I) 5) (v I 1)) (ln (v (L I) 7)))
 (.jump 0 [a (v (L I) 0),a (add (v I 1) (c 1)),a (v (L V3) 2),a (v (L TR) 3),a (v (L T4) 4),a (v (L I) 5),a (v (L (L T4)) 6),a (st (v (L I) 7) (ix (v (L I) 5) (v I 1)) (v I 1099))]))))))))
 (.call f_spec_l2In [a (v (L V3) 2),a (v (L TR) 3),a (v (L I) 7)] 459
 (.ite (nt (v B 459))
 (.ret [a (nl I)])
 (.ret [a (v (L I) 7)]))))))))))
def tr_spec_l2Same:Tr:=.ite (ne (ln (v (L I) 0)) (ln (v (L I) 1)))
 (.ret [a (k false)])
 (.loop [a (v (L I) 0),a (v (L I) 1),a (c 0)]
 (.ite (lt (v I 2) (ln (v (L I) 0)))
 (.guard (le (c 0) (v I 2))
 (.guard (lt (v I 2) (ln (v (L I) 0)))
 (.guard (le (c 0) (v I 2))
 (.guard (lt (v I 2) (ln (v (L I) 1)))
 (.ite (ne (ix (v (L I) 0) (v I 2)) (ix (v (L I) 1) (v I 2)))
 (.ret [a (k false)])
 (.jump 0 [a (v (L I) 0),a (v (L I) 1),a (add (v I 2) (c 1))]))))))
 (.ret [a (k true)])))
def tr_spec_l2Less:Tr:=.join
 (.loop [a (v (L I) 0),a (v (L I) 1),a (c 0)]
 (.ite (lt (v I 2) (ln (v (L I) 0)))
 (.ite (lt (v I 2) (ln (v (L I) 1)))
 (.guard (le (c 0) (v I 2))
 (.guard (lt (v I 2) (ln (v (L I) 0)))
 (.guard (le (c 0) (v I 2))
 (.guard (lt (v I 2) (ln (v (L I) 1)))
 (.ite (ne (ix (v (L I) 0) (v I 2)) (ix (v (L I) 1) (v I 2)))
 (.guard (le (c 0) (v I 2))
 (.guard (lt (v I 2) (ln (v (L I) 0)))
 (.guard (le (c 0) (v I 2))
 (.guard (lt (v I 2) (ln (v (L I) 1)))
 (.ret [a (lt (ix (v (L I) 0) (v I 2)) (ix (v (L I) 1) (v I 2)))])))))
 (.jump 0 [a (v (L I) 0),a (v (L I) 1),a (add (v I 2) (c 1))]))))))
 (.jump 1 [a (v (L I) 0),a (v (L I) 1)]))
 (.jump 1 [a (v (L I) 0),a (v (L I) 1)])))
 (.ret [a (lt (ln (v (L I) 0)) (ln (v (L I) 1)))])
def tr_spec_l2Put:Tr:=.loop [a (v (L (L I)) 0),a (v (L I) 1),a (k false),a (c 0),a (nl (L I))]
 (.ite (lt (v I 3) (ln (v (L (L I)) 0)))
 (.join
 (.ite (nt (v B 2))
 (.guard (le (c 0) (v I 3))
 (.guard (lt (v I 3) (ln (v (L (L I)) 0)))
 (.call f_spec_l2Same [a (ix (v (L (L I)) 0) (v I 3)),a (v (L I) 1)] 774
 (.ite (v B 774)
 (.jump 0 [a (v (L (L I)) 0),a (v (L I) 1),a (k true),a (v I 3),a (v (L (L I)) 4)])
 (.jump 0 [a (v (L (L I)) 0),a (v (L I) 1),a (v B 2),a (v I 3),a (v (L (L I)) 4)])))))
 (.jump 0 [a (v (L (L I)) 0),a (v (L I) 1),a (v B 2),a (v I 3),a (v (L (L I)) 4)]))
 (.join
 (.ite (nt (v B 2))
 (.guard (le (c 0) (v I 3))
 (.guard (lt (v I 3) (ln (v (L (L I)) 0)))
 (.call f_spec_l2Less [a (v (L I) 1),a (ix (v (L (L I)) 0) (v I 3))] 518
 (.ite (v B 518)
 (.guard (le (ln (v (L (L I)) 4)) (c 549755813888))
 (.guard (le (ln (one (v (L I) 1))) (c 549755813888))
 (.jump 0 [a (v (L (L I)) 0),a (v (L I) 1),a (k true),a (v I 3),a (app (v (L (L I)) 4) (one (v (L I) 1)))])))
 (.jump 0 [a (v (L (L I)) 0),a (v (L I) 1),a (v B 2),a (v I 3),a (v (L (L I)) 4)])))))
 (.jump 0 [a (v (L (L I)) 0),a (v (L I) 1),a (v B 2),a (v I 3),a (v (L (L I)) 4)]))
 (.guard (le (c 0) (v I 3))
 (.guard (lt (v I 3) (ln (v (L (L I)) 0)))
 (.guard (le (ln (v (L (L I)) 4)) (c 549755813888))
 (.guard (le (ln (one (ix (v (L (L I)) 0) (v I 3)))) (c 549755813888))
 (.jump 0 [a (v (L (L I)) 0),a (v (L I) 1),a (v B 2),a (add (v I 3) (c 1)),a (app (v (L (L I)) 4) (one (ix (v (L (L I)) 0) (v I 3))))])))))))
 (.join
 (.ite (nt (v B 2))
 (.guard (le (ln (v (L (L I)) 4)) (c 549755813888))
 (.guard (le (ln (one (v (L I) 1))) (c 549755813888))
 (.jump 0 [a (app (v (L (L I)) 4) (one (v (L I) 1)))])))
 (.jump 0 [a (v (L (L I)) 4)]))
 (.ret [a (v (L (L I)) 0)])))
def tr_spec_l2Next:Tr:=.loop [a (v (L I) 2),a (c 0),a (v (L V3) 0),a (v (L TR) 1),a (nl (L I))]
 (.ite (lt (v I 1) (ln (v (L TR) 3)))
 (.join
 (.call f_spec_l2Use [a (v (L V3) 2),a (v (L TR) 3),a (v (L I) 0),a (v I 1)] 519
 (.ite (gt (ln (v (L I) 519)) (c 0))
 (.call f_spec_l2Put [a (v (L (L I)) 4),a (v (L I) 519)] 967
 (.jump 0 [a (v (L I) 0),a (v I 1),a (v (L V3) 2),a (v (L TR) 3),a (v (L (L I)) 967)]))
 (.jump 0 [a (v (L I) 0),a (v I 1),a (v (L V3) 2),a (v (L TR) 3),a (v (L (L I)) 4)])))
 (.jump 0 [a (v (L I) 0),a (add (v I 1) (c 1)),a (v (L V3) 2),a (v (L TR) 3),a (v (L (L I)) 4)]))
 (.ret [a (v (L (L I)) 4)]))
def tr_spec_l4Number:Tr:=.loop [a (v (L I) 2),a (c 0),a (c 0),a (v (L V3) 0),a (v (L TR) 1)]
 (.ite (lt (v I 2) (ln (v (L I) 0)))
 (.guard (le (c 0) (v I 2))
 (.guard (lt (v I 2) (ln (v (L V3) 3)))
 (.guard (le (c 0) (v I 2))
 (.guard (lt (v I 2) (ln (v (L V3) 3)))
 (.guard (le (c 0) (v I 2))
 (.guard (lt (v I 2) (ln (v (L I) 0)))
 (.guard (le (c 0) (v I 2))
 (.guard (lt (v I 2) (ln (v (L V3) 3)))
 (.jump 0 [a (v (L I) 0),a (sub (add (mul (v I 1) (add (sub (f (s (ix (v (L V3) 3) (v I 2)))) (f (ix (v (L V3) 3) (v I 2)))) (c 1))) (ix (v (L I) 0) (v I 2))) (f (ix (v (L V3) 3) (v I 2)))),a (add (v I 2) (c 1)),a (v (L V3) 3),a (v (L TR) 4)])))))))))
 (.ret [a (v I 1)]))
def tr_spec_l4Steps:Tr:=.loop [a (c 0),a (v (L V3) 0),a (v (L TR) 1),a (nl (L I))]
 (.call f_spec_SizeOf [a (v (L V3) 1),a (v (L TR) 2)] 134
 (.ite (lt (v I 0) (v I 134))
 (.call f_spec_l4State [a (v (L V3) 1),a (v (L TR) 2),a (v I 0)] 454
 (.call f_spec_l2Next [a (v (L V3) 1),a (v (L TR) 2),a (v (L I) 454)] 518
 (.loop [a (v I 0),a (c 0),a (v (L V3) 1),a (v (L TR) 2),a (v (L (L I)) 3),a (v (L (L I)) 518),a (nl I)]
 (.ite (lt (v I 1) (ln (v (L (L I)) 5)))
 (.guard (le (c 0) (v I 1))
 (.guard (lt (v I 1) (ln (v (L (L I)) 5)))
 (.call f_spec_l4Number [a (v (L V3) 2),a (v (L TR) 3),a (ix (v (L (L I)) 5) (v I 1))] 651
 (.guard (le (ln (v (L I) 6)) (c 549755813888))
 (.guard (le (ln (one (v I 651))) (c 549755813888))
 (.jump 0 [a (v I 0),a (add (v I 1) (c 1)),a (v (L V3) 2),a (v (L TR) 3),a (v (L (L I)) 4),a (v (L (L I)) 5),a (app (v (L I) 6) (one (v I 651)))]))))))
 (.guard (le (ln (v (L (L I)) 4)) (c 549755813888))
 (.guard (le (ln (one (v (L I) 6))) (c 549755813888))
 (.jump 1 [a (add (v I 0) (c 1)),a (v (L V3) 2),a (v (L TR) 3),a (app (v (L (L I)) 4) (one (v (L I) 6)))])))))))
 (.ret [a (v (L (L I)) 3)])))
end Go.Proofs.YtifkpliahhodoaaGreat
namespace Go.Proofs.YtifkpliahhodoaaGreat
open Go Go.Sm Go.Sm.Q
def tr_spec_l22Onward:Tr:=.call f_spec_l4Steps [a (v (L V3) 0),a (v (L TR) 1)] 100192
 (.loop [a (c 0),a (v (L (L I)) 100192)]
 (.ite (lt (v I 0) (ln (v (L (L I)) 1)))
 (.join
 (.guard (le (c 0) (v I 0))
 (.guard (lt (v I 0) (ln (v (L (L I)) 1)))
 (.ite (eq (ln (ix (v (L (L I)) 1) (v I 0))) (c 0))
 (.guard (le (c 0) (v I 0))
 (.guard (lt (v I 0) (ln (v (L (L I)) 1)))
 (.jump 0 [a (v I 0),a (st (v (L (L I)) 1) (v I 0) (one (v I 0)))])))
 (.jump 0 [a (v I 0),a (v (L (L I)) 1)]))))
 (.jump 0 [a (add (v I 0) (c 1)),a (v (L (L I)) 1)]))
 (.ret [a (v (L (L I)) 1)])))
def tr_spec_l20Of:Tr:=.loop [a (v (L (L T4)) 0),a (v (L I) 1),a (c 0),a (nl I)]
 (.ite (lt (v I 2) (ln (v (L (L T4)) 0)))
 (.guard (le (c 0) (v I 2))
 (.guard (lt (v I 2) (ln (v (L (L T4)) 0)))
 (.call f_spec_l2Last [a (ix (v (L (L T4)) 0) (v I 2)),a (v (L I) 1)] 645
 (.guard (le (ln (v (L I) 3)) (c 549755813888))
 (.guard (le (ln (one (v I 645))) (c 549755813888))
 (.jump 0 [a (v (L (L T4)) 0),a (v (L I) 1),a (add (v I 2) (c 1)),a (app (v (L I) 3) (one (v I 645)))]))))))
 (.ret [a (v (L I) 3)]))
def tr_spec_l24Not:Tr:=.guard (le (c 0) (ln (v (L B) 0)))
 (.guard (le (ln (v (L B) 0)) (c 549755813888))
 (.loop [a (v (L B) 0),a (c 0),a (rep (ln (v (L B) 0)) (z B))]
 (.ite (lt (v I 1) (ln (v (L B) 0)))
 (.guard (le (c 0) (v I 1))
 (.guard (lt (v I 1) (ln (v (L B) 0)))
 (.guard (le (c 0) (v I 1))
 (.guard (lt (v I 1) (ln (v (L B) 2)))
 (.jump 0 [a (v (L B) 0),a (add (v I 1) (c 1)),a (st (v (L B) 2) (v I 1) (nt (ix (v (L B) 0) (v I 1))))])))))
 (.ret [a (v (L B) 2)]))))
def tr_spec_l24Both:Tr:=.guard (le (c 0) (ln (v (L B) 0)))
 (.guard (le (ln (v (L B) 0)) (c 549755813888))
 (.loop [a (v (L B) 0),a (v (L B) 1),a (c 0),a (rep (ln (v (L B) 0)) (z B))]
 (.ite (lt (v I 2) (ln (v (L B) 0)))
 (.join
 (.guard (le (c 0) (v I 2))
 (.guard (lt (v I 2) (ln (v (L B) 0)))
 (.ite (ix (v (L B) 0) (v I 2))
 (.guard (le (c 0) (v I 2))
 (.guard (lt (v I 2) (ln (v (L B) 1)))
 (.guard (le (c 0) (v I 2))
 (.guard (lt (v I 2) (ln (v (L B) 3)))
 (.jump 0 [a (v (L B) 0),a (v (L B) 1),a (v I 2),a (st (v (L B) 3) (v I 2) (ix (v (L B) 1) (v I 2)))])))))
 (.guard (le (c 0) (v I 2))
 (.guard (lt (v I 2) (ln (v (L B) 3)))
 (.jump 0 [a (v (L B) 0),a (v (L B) 1),a (v I 2),a (st (v (L B) 3) (v I 2) (k false))]))))))
 (.jump 0 [a (v (L B) 0),a (v (L B) 1),a (add (v I 2) (c 1)),a (v (L B) 3)]))
 (.ret [a (v (L B) 3)]))))
def tr_spec_l4Ahead:Tr:=.guard (le (c 0) (ln (v (L (L I)) 0)))
 (.guard (le (ln (v (L (L I)) 0)) (c 549755813888))
 (.loop [a (v (L (L I)) 0),a (v (L B) 1),a (c 0),a (rep (ln (v (L (L I)) 0)) (z B))]
 (.ite (lt (v I 2) (ln (v (L (L I)) 0)))
 (.loop [a (v (L (L I)) 0),a (v (L B) 1),a (v I 2),a (c 0),a (v (L B) 3)]
 (.guard (le (c 0) (v I 2))
 (.guard (lt (v I 2) (ln (v (L (L I)) 0)))
 (.ite (lt (v I 3) (ln (ix (v (L (L I)) 0) (v I 2))))
 (.join
 (.guard (le (c 0) (v I 2))
 (.guard (lt (v I 2) (ln (v (L (L I)) 0)))
 (.guard (le (c 0) (v I 3))
 (.guard (lt (v I 3) (ln (ix (v (L (L I)) 0) (v I 2))))
 (.guard (le (c 0) (ix (ix (v (L (L I)) 0) (v I 2)) (v I 3)))
 (.guard (lt (ix (ix (v (L (L I)) 0) (v I 2)) (v I 3)) (ln (v (L B) 1)))
 (.ite (ix (v (L B) 1) (ix (ix (v (L (L I)) 0) (v I 2)) (v I 3)))
 (.guard (le (c 0) (v I 2))
 (.guard (lt (v I 2) (ln (v (L B) 4)))
 (.jump 0 [a (v (L (L I)) 0),a (v (L B) 1),a (v I 2),a (v I 3),a (st (v (L B) 4) (v I 2) (k true))])))
 (.jump 0 [a (v (L (L I)) 0),a (v (L B) 1),a (v I 2),a (v I 3),a (v (L B) 4)]))))))))
 (.jump 0 [a (v (L (L I)) 0),a (v (L B) 1),a (v I 2),a (add (v I 3) (c 1)),a (v (L B) 4)]))
 (.jump 1 [a (v (L (L I)) 0),a (v (L B) 1),a (add (v I 2) (c 1)),a (v (L B) 4)])))))
 (.ret [a (v (L B) 3)]))))
def tr_spec_l24Until:Tr:=.guard (le (c 0) (ln (v (L B) 1)))
 (.guard (le (ln (v (L B) 1)) (c 549755813888))
 (.loop [a (v (L (L I)) 0),a (v (L B) 1),a (v (L B) 2),a (c 0),a (rep (ln (v (L B) 1)) (z B))]
 (.ite (lt (v I 3) (ln (v (L B) 1)))
 (.guard (le (c 0) (v I 3))
 (.guard (lt (v I 3) (ln (v (L B) 2)))
 (.guard (le (c 0) (v I 3))
 (.guard (lt (v I 3) (ln (v (L B) 4)))
 (.jump 0 [a (v (L (L I)) 0),a (v (L B) 1),a (v (L B) 2),a (add (v I 3) (c 1)),a (st (v (L B) 4) (v I 3) (ix (v (L B) 2) (v I 3)))])))))
 (.loop [a (v (L (L I)) 0),a (v (L B) 1),a (c 0),a (v (L B) 4)]
 (.ite (lt (v I 2) (ln (v (L B) 1)))
 (.call f_spec_l4Ahead [a (v (L (L I)) 0),a (v (L B) 3)] 389
 (.loop [a (v (L (L I)) 0),a (v (L B) 1),a (v I 2),a (c 0),a (v (L B) 3),a (v (L B) 389)]
 (.ite (lt (v I 3) (ln (v (L B) 1)))
 (.join
 (.guard (le (c 0) (v I 3))
 (.guard (lt (v I 3) (ln (v (L B) 4)))
 (.ite (ix (v (L B) 4) (v I 3))
 (.guard (le (c 0) (v I 3))
 (.guard (lt (v I 3) (ln (v (L B) 4)))
 (.jump 0 [a (v (L (L I)) 0),a (v (L B) 1),a (v I 2),a (v I 3),a (st (v (L B) 4) (v I 3) (k true)),a (v (L B) 5)])))
 (.guard (le (c 0) (v I 3))
 (.guard (lt (v I 3) (ln (v (L B) 1)))
 (.ite (ix (v (L B) 1) (v I 3))
 (.guard (le (c 0) (v I 3))
 (.guard (lt (v I 3) (ln (v (L B) 5)))
 (.guard (le (c 0) (v I 3))
 (.guard (lt (v I 3) (ln (v (L B) 4)))
 (.jump 0 [a (v (L (L I)) 0),a (v (L B) 1),a (v I 2),a (v I 3),a (st (v (L B) 4) (v I 3) (ix (v (L B) 5) (v I 3))),a (v (L B) 5)])))))
 (.guard (le (c 0) (v I 3))
 (.guard (lt (v I 3) (ln (v (L B) 4)))
 (.jump 0 [a (v (L (L I)) 0),a (v (L B) 1),a (v I 2),a (v I 3),a (st (v (L B) 4) (v I 3) (k false)),a (v (L B) 5)])))))))))
 (.jump 0 [a (v (L (L I)) 0),a (v (L B) 1),a (v I 2),a (add (v I 3) (c 1)),a (v (L B) 4),a (v (L B) 5)]))
 (.jump 1 [a (v (L (L I)) 0),a (v (L B) 1),a (add (v I 2) (c 1)),a (v (L B) 4)]))))
 (.ret [a (v (L B) 3)]))))))
def tr_spec_l24Stay:Tr:=.guard (le (c 0) (ln (v (L B) 1)))
 (.guard (le (ln (v (L B) 1)) (c 549755813888))
 (.loop [a (v (L (L I)) 0),a (v (L B) 1),a (c 0),a (rep (ln (v (L B) 1)) (z B))]
 (.ite (lt (v I 2) (ln (v (L B) 1)))
 (.guard (le (c 0) (v I 2))
 (.guard (lt (v I 2) (ln (v (L B) 1)))
 (.guard (le (c 0) (v I 2))
 (.guard (lt (v I 2) (ln (v (L B) 3)))
 (.jump 0 [a (v (L (L I)) 0),a (v (L B) 1),a (add (v I 2) (c 1)),a (st (v (L B) 3) (v I 2) (ix (v (L B) 1) (v I 2)))])))))
 (.loop [a (v (L (L I)) 0),a (v (L B) 1),a (c 0),a (v (L B) 3)]
 (.ite (lt (v I 2) (ln (v (L B) 1)))
 (.call f_spec_l4Ahead [a (v (L (L I)) 0),a (v (L B) 3)] 389
 (.loop [a (v (L (L I)) 0),a (v (L B) 1),a (v I 2),a (c 0),a (v (L B) 3),a (v (L B) 389)]
 (.ite (lt (v I 3) (ln (v (L B) 1)))
 (.join
 (.guard (le (c 0) (v I 3))
 (.guard (lt (v I 3) (ln (v (L B) 4)))
 (.ite (ix (v (L B) 4) (v I 3))
 (.guard (le (c 0) (v I 3))
 (.guard (lt (v I 3) (ln (v (L B) 5)))
 (.guard (le (c 0) (v I 3))
 (.guard (lt (v I 3) (ln (v (L B) 4)))
 (.jump 0 [a (v (L (L I)) 0),a (v (L B) 1),a (v I 2),a (v I 3),a (st (v (L B) 4) (v I 3) (ix (v (L B) 5) (v I 3))),a (v (L B) 5)])))))
 (.guard (le (c 0) (v I 3))
 (.guard (lt (v I 3) (ln (v (L B) 4)))
 (.jump 0 [a (v (L (L I)) 0),a (v (L B) 1),a (v I 2),a (v I 3),a (st (v (L B) 4) (v I 3) (k false)),a (v (L B) 5)]))))))
 (.jump 0 [a (v (L (L I)) 0),a (v (L B) 1),a (v I 2),a (add (v I 3) (c 1)),a (v (L B) 4),a (v (L B) 5)]))
 (.jump 1 [a (v (L (L I)) 0),a (v (L B) 1),a (add (v I 2) (c 1)),a (v (L B) 4)]))))
 (.ret [a (v (L B) 3)]))))))
def tr_spec_l24All:Tr:=.call f_spec_l24Not [a (v (L B) 2)] 100128
 (.call f_spec_l24Not [a (v (L B) 1)] 100512
 (.call f_spec_l24Both [a (v (L B) 100128),a (v (L B) 100512)] 100576
 (.call f_spec_l24Until [a (v (L (L I)) 0),a (v (L B) 100128),a (v (L B) 100576)] 100640
 (.call f_spec_l24Stay [a (v (L (L I)) 0),a (v (L B) 100128)] 100896
 (.guard (le (c 0) (ln (v (L B) 1)))
 (.guard (le (ln (v (L B) 1)) (c 549755813888))
 (.loop [a (v (L B) 1),a (c 0),a (v (L B) 100640),a (v (L B) 100896),a (rep (ln (v (L B) 1)) (z B))]
 (.ite (lt (v I 1) (ln (v (L B) 0)))
 (.join
 (.guard (le (c 0) (v I 1))
 (.guard (lt (v I 1) (ln (v (L B) 2)))
 (.ite (nt (ix (v (L B) 2) (v I 1)))
 (.guard (le (c 0) (v I 1))
 (.guard (lt (v I 1) (ln (v (L B) 3)))
 (.guard (le (c 0) (v I 1))
 (.guard (lt (v I 1) (ln (v (L B) 4)))
 (.jump 0 [a (v (L B) 0),a (v I 1),a (v (L B) 2),a (v (L B) 3),a (st (v (L B) 4) (v I 1) (nt (ix (v (L B) 3) (v I 1))))])))))
 (.guard (le (c 0) (v I 1))
 (.guard (lt (v I 1) (ln (v (L B) 4)))
 (.jump 0 [a (v (L B) 0),a (v I 1),a (v (L B) 2),a (v (L B) 3),a (st (v (L B) 4) (v I 1) (k false))]))))))
 (.jump 0 [a (v (L B) 0),a (add (v I 1) (c 1)),a (v (L B) 2),a (v (L B) 3),a (v (L B) 4)]))
 (.ret [a (v (L B) 4)])))))))))
def tr_spec_l24Row:Tr:=.ite (le (v I 0) (c 1))
 (.guard (le (c 0) (ln (v (L (L I)) 5)))
 (.guard (le (ln (v (L (L I)) 5)) (c 549755813888))
 (.loop [a (v (L (L I)) 5),a (v (L (L I)) 6),a (c 0),a (v I 0),a (v I 1),a (v I 2),a (v I 3),a (rep (ln (v (L (L I)) 5)) (z B))]
 (.ite (lt (v I 2) (ln (v (L (L I)) 0)))
 (.join
 (.ite (eq (v I 3) (c 0))
 (.guard (le (c 0) (v I 2))
 (.guard (lt (v I 2) (ln (v (L B) 7)))
 (.jump 0 [a (v (L (L I)) 0),a (v (L (L I)) 1),a (v I 2),a (v I 3),a (v I 4),a (v I 5),a (v I 6),a (st (v (L B) 7) (v I 2) (k true))])))
 (.guard (le (c 0) (v I 2))
 (.guard (lt (v I 2) (ln (v (L (L I)) 1)))
 (.guard (le (c 0) (v I 4))
 (.guard (lt (v I 4) (ln (ix (v (L (L I)) 1) (v I 2))))
 (.guard (le (c 0) (v I 2))
 (.guard (lt (v I 2) (ln (v (L B) 7)))
 (.jump 0 [a (v (L (L I)) 0),a (v (L (L I)) 1),a (v I 2),a (v I 3),a (v I 4),a (v I 5),a (v I 6),a (st (v (L B) 7) (v I 2) (eq (ix (ix (v (L (L I)) 1) (v I 2)) (v I 4)) (c 1)))]))))))))
 (.jump 0 [a (v (L (L I)) 0),a (v (L (L I)) 1),a (add (v I 2) (c 1)),a (v I 3),a (v I 4),a (v I 5),a (v I 6),a (v (L B) 7)]))
 (.ret [a (v (L B) 7)])))))
 (.guard (le (c 0) (v I 2))
 (.guard (lt (v I 2) (ln (v (L (L B)) 4)))
 (.guard (le (c 0) (v I 3))
 (.guard (lt (v I 3) (ln (v (L (L B)) 4)))
 (.ite (eq (v I 0) (c 2))
 (.call f_spec_l24Not [a (ix (v (L (L B)) 4) (v I 2))] 101344
 (.ret [a (v (L B) 101344)]))
 (.ite (eq (v I 0) (c 3))
 (.call f_spec_l24Both [a (ix (v (L (L B)) 4) (v I 2)),a (ix (v (L (L B)) 4) (v I 3))] 101600
 (.ret [a (v (L B) 101600)]))
 (.ite (eq (v I 0) (c 4))
 (.call f_spec_l24Not [a (ix (v (L (L B)) 4) (v I 2))] 101728
 (.call f_spec_l24Not [a (ix (v (L (L B)) 4) (v I 3))] 101856
 (.call f_spec_l24Both [a (v (L B) 101728),a (v (L B) 101856)] 101920
 (.call f_spec_l24Not [a (v (L B) 101920)] 101984
 (.ret [a (v (L B) 101984)])))))
 (.ite (eq (v I 0) (c 5))
 (.call f_spec_l4Ahead [a (v (L (L I)) 5),a (ix (v (L (L B)) 4) (v I 2))] 101984
 (.ret [a (v (L B) 101984)]))
 (.ite (eq (v I 0) (c 6))
 (.call f_spec_l24Until [a (v (L (L I)) 5),a (ix (v (L (L B)) 4) (v I 2)),a (ix (v (L (L B)) 4) (v I 3))] 102240
 (.ret [a (v (L B) 102240)]))
 (.ite (eq (v I 0) (c 7))
 (.call f_spec_l24Stay [a (v (L (L I)) 5),a (ix (v (L (L B)) 4) (v I 2))] 102368
 (.ret [a (v (L B) 102368)]))
 (.ite (eq (v I 0) (c 8))
 (.call f_spec_l24Not [a (ix (v (L (L B)) 4) (v I 2))] 102560
 (.call f_spec_l4Ahead [a (v (L (L I)) 5),a (v (L B) 102560)] 102624
 (.call f_spec_l24Not [a (v (L B) 102624)] 102688
 (.ret [a (v (L B) 102688)]))))
 (.ite (eq (v I 0) (c 9))
 (.call f_spec_l24All [a (v (L (L I)) 5),a (ix (v (L (L B)) 4) (v I 2)),a (ix (v (L (L B)) 4) (v I 3))] 102816
 (.ret [a (v (L B) 102816)]))
 (.guard (le (c 0) (ln (v (L (L I)) 5)))
 (.guard (le (ln (v (L (L I)) 5)) (c 549755813888))
 (.loop [a (v (L (L I)) 5),a (ix (v (L (L B)) 4) (v I 2)),a (c 0),a (rep (ln (v (L (L I)) 5)) (z B))]
 (.ite (lt (v I 2) (ln (v (L (L I)) 0)))
 (.guard (le (c 0) (v I 2))
 (.guard (lt (v I 2) (ln (v (L B) 3)))
 (.jump 0 [a (v (L (L I)) 0),a (v (L B) 1),a (add (v I 2) (c 1)),a (st (v (L B) 3) (v I 2) (k true))])))
 (.call f_spec_l24Not [a (v (L B) 1)] 453
 (.call f_spec_l24Until [a (v (L (L I)) 0),a (v (L B) 3),a (v (L B) 453)] 517
 (.call f_spec_l24Not [a (v (L B) 517)] 581
 (.ret [a (v (L B) 581)]))))))))))))))))))))
def tr_spec_l24Rows:Tr:=.call f_spec_l22Onward [a (v (L V3) 0),a (v (L TR) 1)] 100192
 (.loop [a (v (L (L T4)) 2),a (v (L T4) 3),a (c 0),a (v (L V3) 0),a (v (L TR) 1),a (v (L (L I)) 100192),a (nl (L I))]
 (.ite (lt (v I 2) (ln (v (L (L I)) 5)))
 (.call f_spec_l4State [a (v (L V3) 3),a (v (L TR) 4),a (v I 2)] 522
 (.call f_spec_l20Of [a (v (L (L T4)) 0),a (v (L I) 522)] 586
 (.guard (le (ln (v (L (L I)) 6)) (c 549755813888))
 (.guard (le (ln (one (v (L I) 586))) (c 549755813888))
 (.jump 0 [a (v (L (L T4)) 0),a (v (L T4) 1),a (add (v I 2) (c 1)),a (v (L V3) 3),a (v (L TR) 4),a (v (L (L I)) 5),a (app (v (L (L I)) 6) (one (v (L I) 586)))])))))
 (.loop [a (v (L T4) 1),a (c 0),a (v (L (L I)) 5),a (v (L (L I)) 6),a (nl (L B))]
 (.ite (lt (v I 1) (ln (v (L T4) 0)))
 (.guard (le (c 0) (v I 1))
 (.guard (lt (v I 1) (ln (v (L T4) 0)))
 (.call f_spec_l24Row [a (f (ix (v (L T4) 0) (v I 1))),a (f (s (ix (v (L T4) 0) (v I 1)))),a (f (s (s (ix (v (L T4) 0) (v I 1))))),a (s (s (s (ix (v (L T4) 0) (v I 1))))),a (v (L (L B)) 4),a (v (L (L I)) 2),a (v (L (L I)) 3)] 776
 (.guard (le (ln (v (L (L B)) 4)) (c 549755813888))
 (.guard (le (ln (one (v (L B) 776))) (c 549755813888))
 (.jump 0 [a (v (L T4) 0),a (add (v I 1) (c 1)),a (v (L (L I)) 2),a (v (L (L I)) 3),a (app (v (L (L B)) 4) (one (v (L B) 776)))]))))))
 (.ret [a (v (L (L B)) 4)])))))
def tr_spec_l4List:Tr:=.loop [a (v (L B) 0),a (c 0),a (nl I)]
 (.ite (lt (v I 1) (ln (v (L B) 0)))
 (.join
 (.guard (le (c 0) (v I 1))
 (.guard (lt (v I 1) (ln (v (L B) 0)))
 (.ite (ix (v (L B) 0) (v I 1))
 (.guard (le (ln (v (L I) 2)) (c 549755813888))
 (.guard (le (ln (one (v I 1))) (c 549755813888))
 (.jump 0 [a (v (L B) 0),a (v I 1),a (app (v (L I) 2) (one (v I 1)))])))
 (.jump 0 [a (v (L B) 0),a (v I 1),a (v (L I) 2)]))))
 (.jump 0 [a (v (L B) 0),a (add (v I 1) (c 1)),a (v (L I) 2)]))
 (.ret [a (v (L I) 2)]))
def tr_spec_TreeSets:Tr:=.call f_spec_l24Asked [a (v (L V3) 0),a (v (L TR) 1),a (v (L (L T4)) 2),a (v (L T4) 3)] 100448
 (.ite (nt (v B 100448))
 (.ret [a (nl (L I))])
 (.call f_spec_l24Rows [a (v (L V3) 0),a (v (L TR) 1),a (v (L (L T4)) 2),a (v (L T4) 3)] 100768
 (.loop [a (c 0),a (nl (L I)),a (v (L (L B)) 100768)]
 (.ite (lt (v I 0) (ln (v (L (L B)) 2)))
 (.guard (le (c 0) (v I 0))
 (.guard (lt (v I 0) (ln (v (L (L B)) 2)))
 (.call f_spec_l4List [a (ix (v (L (L B)) 2) (v I 0))] 581
 (.guard (le (ln (v (L (L I)) 1)) (c 549755813888))
 (.guard (le (ln (one (v (L I) 581))) (c 549755813888))
 (.jump 0 [a (add (v I 0) (c 1)),a (app (v (L (L I)) 1) (one (v (L I) 581))),a (v (L (L B)) 2)]))))))
 (.ret [a (v (L (L I)) 1)])))))
def tr_impl_in:Tr:=.ite (ge (v I 0) (v I 1))
 (.ret [a (le (v I 0) (v I 2))])
 (.ret [a (k false)])
def tr_impl_varOk:Tr:=.call f_impl_in [a (v I 0),a (c (-9999)),a (c 9999)] 100256
 (.ite (v B 100256)
 (.call f_impl_in [a (v I 1),a (v I 0),a (c 9999)] 100640
 (.ite (v B 100640)
 (.ite (lt (sub (v I 1) (v I 0)) (c 20))
 (.call f_impl_in [a (v I 2),a (v I 0),a (v I 1)] 101728
 (.ret [a (v B 101728)]))
 (.ret [a (k false)]))
 (.ret [a (k false)])))
 (.ret [a (k false)]))
def tr_impl_size:Tr:=.loop [a (c 1),a (v (L V3) 0),a (ln (v (L V3) 0)),a (c 0)]
 (.ite (lt (v I 3) (v I 2))
 (.guard (le (c 0) (v I 3))
 (.guard (lt (v I 3) (ln (v (L V3) 1)))
 (.jump 0 [a (mul (v I 0) (add (sub (f (s (ix (v (L V3) 1) (v I 3)))) (f (ix (v (L V3) 1) (v I 3)))) (c 1))),a (v (L V3) 1),a (v I 2),a (add (v I 3) (c 1))])))
 (.ret [a (v I 0)]))
def tr_impl_parts:Tr:=.ite (eq (v I 0) (c 2))
 (.ret [a (c 2),a (c 1),a (c 1)])
 (.ite (eq (v I 0) (c 3))
 (.ret [a (c 2),a (c 1),a (c 1)])
 (.ite (eq (v I 0) (c 4))
 (.ret [a (c 2),a (c 1),a (c 1)])
 (.ite (eq (v I 0) (c 5))
 (.ret [a (c 2),a (c 1),a (c 2)])
 (.ite (eq (v I 0) (c 6))
 (.ret [a (c 2),a (c 1),a (c 2)])
 (.ite (eq (v I 0) (c 7))
 (.ret [a (c 1),a (c 2),a (c 2)])
 (.ite (eq (v I 0) (c 8))
 (.ret [a (c 2),a (c 2),a (c 2)])
 (.ite (eq (v I 0) (c 9))
 (.ret [a (c 2),a (c 2),a (c 2)])
 (.ret [a (c 0),a (c 0),a (c 1)]))))))))
def tr_impl_kindsOf:Tr:=.call f_impl_in [a (v I 1),a (c 0),a (c 5)] 100128
 (.ite (nt (v B 100128))
 (.ret [a (.nil true I)])
 (.call f_impl_in [a (ln (v (L T4) 0)),a (c 1),a (c 40)] 100448
 (.ite (nt (v B 100448))
 (.ret [a (.nil true I)])
 (.guard (le (c 0) (ln (v (L T4) 0)))
 (.guard (le (ln (v (L T4) 0)) (c 549755813888))
 (.loop [a (v I 1),a (v (L T4) 0),a (ln (v (L T4) 0)),a (c 0),a (rep (c 0) (z I))]
 (.ite (lt (v I 3) (v I 2))
 (.guard (le (c 0) (v I 3))
 (.guard (lt (v I 3) (ln (v (L T4) 1)))
 (.call f_impl_parts [a (f (ix (v (L T4) 1) (v I 3)))] 582
 (.call f_impl_in [a (f (ix (v (L T4) 1) (v I 3))),a (c 0),a (c 9)] 1222
 (.join
 (.ite (eq (f (ix (v (L T4) 1) (v I 3))) (c 0))
 (.call f_impl_in [a (f (s (ix (v (L T4) 1) (v I 3)))),a (c (-9999)),a (c 9999)] 1734
 (.ite (v B 1734)
 (.ite (eq (f (s (s (ix (v (L T4) 1) (v I 3))))) (c 0))
 (.jump 0 [a (v I 0),a (v I 584),a (eq (s (s (s (ix (v (L T4) 1) (v I 3))))) (c 0)),a (v (L T4) 1),a (v I 2),a (v I 3),a (v (L I) 4)])
 (.jump 0 [a (v I 0),a (v I 584),a (k false),a (v (L T4) 1),a (v I 2),a (v I 3),a (v (L I) 4)]))
 (.jump 0 [a (v I 0),a (v I 584),a (k false),a (v (L T4) 1),a (v I 2),a (v I 3),a (v (L I) 4)])))
 (.ite (eq (f (ix (v (L T4) 1) (v I 3))) (c 1))
 (.call f_impl_in [a (f (s (ix (v (L T4) 1) (v I 3)))),a (c 0),a (sub (v I 0) (c 1))] 2118
 (.ite (v B 2118)
 (.ite (eq (f (s (s (ix (v (L T4) 1) (v I 3))))) (c 0))
 (.jump 0 [a (v I 0),a (v I 584),a (eq (s (s (s (ix (v (L T4) 1) (v I 3))))) (c 0)),a (v (L T4) 1),a (v I 2),a (v I 3),a (v (L I) 4)])
 (.jump 0 [a (v I 0),a (v I 584),a (k false),a (v (L T4) 1),a (v I 2),a (v I 3),a (v (L I) 4)]))
 (.jump 0 [a (v I 0),a (v I 584),a (k false),a (v (L T4) 1),a (v I 2),a (v I 3),a (v (L I) 4)])))
 (.ite (v B 1222)
 (.ite (eq (f (s (ix (v (L T4) 1) (v I 3)))) (c 0))
 (.call f_impl_in [a (f (s (s (ix (v (L T4) 1) (v I 3))))),a (c 0),a (sub (v I 3) (c 1))] 2502
 (.ite (v B 2502)
 (.call f_impl_in [a (s (s (s (ix (v (L T4) 1) (v I 3))))),a (c 0),a (sub (v I 3) (c 1))] 2950
 (.ite (v B 2950)
 (.guard (le (c 0) (f (s (s (ix (v (L T4) 1) (v I 3))))))
 (.guard (lt (f (s (s (ix (v (L T4) 1) (v I 3))))) (ln (v (L I) 4)))
 (.ite (eq (ix (v (L I) 4) (f (s (s (ix (v (L T4) 1) (v I 3)))))) (v I 583))
 (.guard (le (c 0) (s (s (s (ix (v (L T4) 1) (v I 3))))))
 (.guard (lt (s (s (s (ix (v (L T4) 1) (v I 3))))) (ln (v (L I) 4)))
 (.ite (eq (ix (v (L I) 4) (s (s (s (ix (v (L T4) 1) (v I 3)))))) (v I 583))
 (.ite (eq (v I 582) (c 2))
 (.jump 0 [a (v I 0),a (v I 584),a (k true),a (v (L T4) 1),a (v I 2),a (v I 3),a (v (L I) 4)])
 (.jump 0 [a (v I 0),a (v I 584),a (eq (f (s (s (ix (v (L T4) 1) (v I 3))))) (s (s (s (ix (v (L T4) 1) (v I 3)))))),a (v (L T4) 1),a (v I 2),a (v I 3),a (v (L I) 4)]))
 (.jump 0 [a (v I 0),a (v I 584),a (k false),a (v (L T4) 1),a (v I 2),a (v I 3),a (v (L I) 4)]))))
 (.jump 0 [a (v I 0),a (v I 584),a (k false),a (v (L T4) 1),a (v I 2),a (v I 3),a (v (L I) 4)]))))
 (.jump 0 [a (v I 0),a (v I 584),a (k false),a (v (L T4) 1),a (v I 2),a (v I 3),a (v (L I) 4)])))
 (.jump 0 [a (v I 0),a (v I 584),a (k false),a (v (L T4) 1),a (v I 2),a (v I 3),a (v (L I) 4)])))
 (.jump 0 [a (v I 0),a (v I 584),a (k false),a (v (L T4) 1),a (v I 2),a (v I 3),a (v (L I) 4)]))
 (.jump 0 [a (v I 0),a (v I 584),a (k false),a (v (L T4) 1),a (v I 2),a (v I 3),a (v (L I) 4)]))))
 (.ite (nt (v B 2))
 (.ret [a (.nil true I)])
 (.guard (le (ln (v (L I) 6)) (c 549755813888))
 (.guard (le (ln (one (v I 1))) (c 549755813888))
 (.jump 0 [a (v I 0),a (v (L T4) 3),a (v I 4),a (add (v I 5) (c 1)),a (app (v (L I) 6) (one (v I 1)))])))))))))
 (.guard (nt (emp (v (L I) 4)))
 (.ret [a (re true (v (L I) 4))])))))))))
def tr_impl_kindOf:Tr:=.call f_impl_kindsOf [a (v (L T4) 0),a (v I 1)] 100192
 (.ite (emp (v (N I) 100192))
 (.ret [a (c 0)])
 (.guard (le (c 0) (sub (lm (v (N I) 100192)) (c 1)))
 (.guard (lt (sub (lm (v (N I) 100192)) (c 1)) (lm (v (N I) 100192)))
 (.ret [a (im (v (N I) 100192) (sub (lm (v (N I) 100192)) (c 1)))]))))
def tr_impl_ruleOk:Tr:=.call f_impl_kindOf [a (v (L T4) 0),a (v I 3)] 100320
 (.ite (ne (v I 100320) (c 2))
 (.ret [a (k false)])
 (.ite (ne (ln (v (L I) 1)) (ln (v (L (L T4)) 2)))
 (.ret [a (k false)])
 (.loop [a (v I 3),a (v (L I) 1),a (ln (v (L I) 1)),a (c 0),a (v (L T4) 0),a (v (L I) 1),a (v (L (L T4)) 2)]
 (.ite (lt (v I 3) (v I 2))
 (.join
 (.guard (le (c 0) (v I 3))
 (.guard (lt (v I 3) (ln (v (L I) 1)))
 (.call f_impl_in [a (ix (v (L I) 1) (v I 3)),a (c 0),a (sub (v I 0) (c 1))] 584
 (.ite (nt (v B 584))
 (.ret [a (k false)])
 (.ite (gt (v I 3) (c 0))
 (.guard (le (c 0) (sub (v I 3) (c 1)))
 (.guard (lt (sub (v I 3) (c 1)) (ln (v (L I) 5)))
 (.ite (ge (ix (v (L I) 5) (sub (v I 3) (c 1))) (ix (v (L I) 1) (v I 3)))
 (.ret [a (k false)])
 (.guard (le (c 0) (v I 3))
 (.guard (lt (v I 3) (ln (v (L (L T4)) 6)))
 (.call f_impl_kindOf [a (ix (v (L (L T4)) 6) (v I 3)),a (v I 0)] 2056
 (.ite (ne (v I 2056) (c 1))
 (.ret [a (k false)])
 (.jump 0 [a (v I 0),a (v (L I) 1),a (v I 2),a (v I 3),a (v (L T4) 4),a (v (L I) 5),a (v (L (L T4)) 6)]))))))))
 (.guard (le (c 0) (v I 3))
 (.guard (lt (v I 3) (ln (v (L (L T4)) 6)))
 (.call f_impl_kindOf [a (ix (v (L (L T4)) 6) (v I 3)),a (v I 0)] 2056
 (.ite (ne (v I 2056) (c 1))
 (.ret [a (k false)])
 (.jump 0 [a (v I 0),a (v (L I) 1),a (v I 2),a (v I 3),a (v (L T4) 4),a (v (L I) 5),a (v (L (L T4)) 6)]))))))))))
 (.jump 0 [a (v I 0),a (v (L I) 1),a (v I 2),a (add (v I 3) (c 1)),a (v (L T4) 4),a (v (L I) 5),a (v (L (L T4)) 6)]))
 (.ret [a (k true)])))))
def tr_impl_SystemValid:Tr:=.join
 (.call f_impl_in [a (ln (v (L V3) 0)),a (c 1),a (c 5)] 100320
 (.ite (nt (v B 100320))
 (.ret [a (k false)])
 (.ite (gt (ln (v (L TR) 1)) (c 8))
 (.ret [a (k false)])
 (.loop [a (v (L V3) 0),a (ln (v (L V3) 0)),a (c 0),a (v (L V3) 0),a (v (L TR) 1)]
 (.ite (lt (v I 2) (v I 1))
 (.guard (le (c 0) (v I 2))
 (.guard (lt (v I 2) (ln (v (L V3) 0)))
 (.call f_impl_varOk [a (f (ix (v (L V3) 0) (v I 2))),a (f (s (ix (v (L V3) 0) (v I 2)))),a (s (s (ix (v (L V3) 0) (v I 2))))] 774
 (.ite (nt (v B 774))
 (.ite (ge (v I 2) (c 0))
 (.ret [a (k false)])
 (.call f_impl_size [a (v (L V3) 3)] 3014
 (.ite (gt (v I 3014) (c 400))
 (.ret [a (k false)])
 (.jump 1 [a (v (L V3) 3),a (v (L TR) 4)]))))
 (.jump 0 [a (v (L V3) 0),a (v I 1),a (add (v I 2) (c 1)),a (v (L V3) 3),a (v (L TR) 4)])))))
 (.call f_impl_size [a (v (L V3) 3)] 1670
 (.ite (gt (v I 1670) (c 400))
 (.ret [a (k false)])
 (.jump 1 [a (v (L V3) 3),a (v (L TR) 4)]))))))))
 (.loop [a (v (L TR) 1),a (ln (v (L TR) 1)),a (c 0),a (v (L V3) 0),a (v (L TR) 1)]
 (.ite (lt (v I 2) (v I 1))
 (.guard (le (c 0) (v I 2))
 (.guard (lt (v I 2) (ln (v (L TR) 0)))
 (.call f_impl_ruleOk [a (f (ix (v (L TR) 0) (v I 2))),a (f (s (ix (v (L TR) 0) (v I 2)))),a (s (s (ix (v (L TR) 0) (v I 2)))),a (ln (v (L V3) 3))] 966
 (.ite (nt (v B 966))
 (.ret [a (nt (ge (v I 2) (c 0)))])
 (.jump 0 [a (v (L TR) 0),a (v I 1),a (add (v I 2) (c 1)),a (v (L V3) 3),a (v (L TR) 4)])))))
 (.ret [a (nt (ge (c (-1)) (c 0)))])))
def tr_impl_factsOk:Tr:=.call f_impl_SystemValid [a (v (L V3) 0),a (v (L TR) 1)] 100192
 (.ite (v B 100192)
 (.ite (le (ln (v (L (L T4)) 2)) (c 4))
 (.loop [a (v (L (L T4)) 2),a (ln (v (L (L T4)) 2)),a (c 0),a (v (L V3) 0),a (v (L TR) 1)]
 (.ite (lt (v I 2) (v I 1))
 (.guard (le (c 0) (v I 2))
 (.guard (lt (v I 2) (ln (v (L (L T4)) 0)))
 (.call f_impl_kindOf [a (ix (v (L (L T4)) 0) (v I 2)),a (ln (v (L V3) 3))] 902
 (.ite (ne (v I 902) (c 2))
 (.ret [a (nt (ge (v I 2) (c 0)))])
 (.jump 0 [a (v (L (L T4)) 0),a (v I 1),a (add (v I 2) (c 1)),a (v (L V3) 3),a (v (L TR) 4)])))))
 (.ret [a (nt (ge (c (-1)) (c 0)))])))
 (.ret [a (k false)]))
 (.ret [a (k false)]))
def tr_impl_treeParts:Tr:=.ite (eq (v I 0) (c 3))
 (.ret [a (c 2)])
 (.ite (eq (v I 0) (c 4))
 (.ret [a (c 2)])
 (.ite (eq (v I 0) (c 6))
 (.ret [a (c 2)])
 (.ite (eq (v I 0) (c 9))
 (.ret [a (c 2)])
 (.ite (eq (v I 0) (c 0))
 (.ret [a (c 0)])
 (.ite (eq (v I 0) (c 1))
 (.ret [a (c 0)])
 (.ret [a (c 1)]))))))
def tr_impl_TreesValid:Tr:=.call f_impl_in [a (v I 1),a (c 0),a (c 4)] 100128
 (.ite (nt (v B 100128))
 (.ret [a (k false)])
 (.call f_impl_in [a (ln (v (L T4) 0)),a (c 1),a (c 24)] 100448
 (.ite (nt (v B 100448))
 (.ret [a (k false)])
 (.loop [a (v I 1),a (v (L T4) 0),a (ln (v (L T4) 0)),a (c 0)]
 (.ite (lt (v I 3) (v I 2))
 (.guard (le (c 0) (v I 3))
 (.guard (lt (v I 3) (ln (v (L T4) 1)))
 (.call f_impl_in [a (f (ix (v (L T4) 1) (v I 3))),a (c 0),a (c 10)] 580
 (.join
 (.ite (eq (f (ix (v (L T4) 1) (v I 3))) (c 0))
 (.jump 0 [a (v I 0),a (.o2 .and (eq (f (ix (v (L T4) 1) (v I 3))) (c 0)) (.o2 .and (eq (f (s (ix (v (L T4) 1) (v I 3)))) (c 0)) (.o2 .and (eq (f (s (s (ix (v (L T4) 1) (v I 3))))) (c 0)) (eq (s (s (s (ix (v (L T4) 1) (v I 3))))) (c 0))))),a (v (L T4) 1),a (v I 2),a (v I 3)])
 (.ite (eq (f (ix (v (L T4) 1) (v I 3))) (c 1))
 (.call f_impl_in [a (f (s (ix (v (L T4) 1) (v I 3)))),a (c 0),a (sub (v I 0) (c 1))] 1476
 (.ite (v B 1476)
 (.ite (eq (f (s (s (ix (v (L T4) 1) (v I 3))))) (c 0))
 (.jump 0 [a (v I 0),a (eq (s (s (s (ix (v (L T4) 1) (v I 3))))) (c 0)),a (v (L T4) 1),a (v I 2),a (v I 3)])
 (.jump 0 [a (v I 0),a (k false),a (v (L T4) 1),a (v I 2),a (v I 3)]))
 (.jump 0 [a (v I 0),a (k false),a (v (L T4) 1),a (v I 2),a (v I 3)])))
 (.ite (v B 580)
 (.ite (eq (f (s (ix (v (L T4) 1) (v I 3)))) (c 0))
 (.call f_impl_in [a (f (s (s (ix (v (L T4) 1) (v I 3))))),a (c 0),a (sub (v I 3) (c 1))] 1860
 (.ite (v B 1860)
 (.call f_impl_in [a (s (s (s (ix (v (L T4) 1) (v I 3))))),a (c 0),a (sub (v I 3) (c 1))] 2308
 (.ite (v B 2308)
 (.ite (eq (f (s (s (ix (v (L T4) 1) (v I 3))))) (s (s (s (ix (v (L T4) 1) (v I 3))))))
 (.jump 0 [a (v I 0),a (k true),a (v (L T4) 1),a (v I 2),a (v I 3)])
 (.call f_impl_treeParts [a (f (ix (v (L T4) 1) (v I 3)))] 3012
 (.jump 0 [a (v I 0),a (eq (v I 3012) (c 2)),a (v (L T4) 1),a (v I 2),a (v I 3)])))
 (.jump 0 [a (v I 0),a (k false),a (v (L T4) 1),a (v I 2),a (v I 3)])))
 (.jump 0 [a (v I 0),a (k false),a (v (L T4) 1),a (v I 2),a (v I 3)])))
 (.jump 0 [a (v I 0),a (k false),a (v (L T4) 1),a (v I 2),a (v I 3)]))
 (.jump 0 [a (v I 0),a (k false),a (v (L T4) 1),a (v I 2),a (v I 3)]))))
 (.ite (nt (v B 1))
 (.ret [a (k false)])
 (.jump 0 [a (v I 0),a (v (L T4) 2),a (v I 3),a (add (v I 4) (c 1))]))))))
 (.ret [a (k true)]))))))
def tr_impl_askTree:Tr:=.call f_impl_factsOk [a (v (L V3) 0),a (v (L TR) 1),a (v (L (L T4)) 2)] 100256
 (.ite (v B 100256)
 (.call f_impl_TreesValid [a (v (L T4) 3),a (ln (v (L (L T4)) 2))] 100576
 (.ret [a (v B 100576)]))
 (.ret [a (k false)]))
def tr_impl_stateAt:Tr:=.guard (le (c 0) (ln (v (L V3) 0)))
 (.guard (le (ln (v (L V3) 0)) (c 549755813888))
 (.loop [a (v I 2),a (sub (ln (rep (ln (v (L V3) 0)) (z I))) (c 1)),a (v (L V3) 0),a (v (L TR) 1),a (rep (ln (v (L V3) 0)) (z I))]
 (.ite (ge (v I 1) (c 0))
 (.guard (le (c 0) (v I 1))
 (.guard (lt (v I 1) (ln (v (L V3) 2)))
 (.guard (ne (add (sub (f (s (ix (v (L V3) 2) (v I 1)))) (f (ix (v (L V3) 2) (v I 1)))) (c 1)) (c 0))
 (.guard (le (c 0) (v I 1))
 (.guard (lt (v I 1) (ln (v (L I) 4)))
 (.guard (ne (add (sub (f (s (ix (v (L V3) 2) (v I 1)))) (f (ix (v (L V3) 2) (v I 1)))) (c 1)) (c 0))
 (.jump 0 [a (quo (v I 0) (add (sub (f (s (ix (v (L V3) 2) (v I 1)))) (f (ix (v (L V3) 2) (v I 1)))) (c 1))),a (sub (v I 1) (c 1)),a (v (L V3) 2),a (v (L TR) 3),a (st (v (L I) 4) (v I 1) (add (f (ix (v (L V3) 2) (v I 1))) (rem (v I 0) (add (sub (f (s (ix (v (L V3) 2) (v I 1)))) (f (ix (v (L V3) 2) (v I 1)))) (c 1)))))])))))))
 (.ret [a (v (L I) 4)]))))
def tr_impl_held:Tr:=.ret [a (.o2 (.mx .i64) (c (-9999)) (.o2 (.mn .i64) (c 9999) (v I 0)))]
def tr_impl_bit:Tr:=.ite (v B 0)
 (.ret [a (c 1)])
 (.ret [a (c 0)])
def tr_impl_do:Tr:=.ite (eq (v I 0) (c 2))
 (.call f_impl_held [a (add (v I 1) (v I 2))] 100448
 (.ret [a (v I 100448)]))
 (.ite (eq (v I 0) (c 3))
 (.call f_impl_held [a (sub (v I 1) (v I 2))] 100576
 (.ret [a (v I 100576)]))
 (.ite (eq (v I 0) (c 4))
 (.call f_impl_held [a (mul (v I 1) (v I 2))] 100704
 (.ret [a (v I 100704)]))
 (.ite (eq (v I 0) (c 5))
 (.call f_impl_bit [a (lt (v I 1) (v I 2))] 100832
 (.ret [a (v I 100832)]))
 (.ite (eq (v I 0) (c 6))
 (.call f_impl_bit [a (eq (v I 1) (v I 2))] 100960
 (.ret [a (v I 100960)]))
 (.ite (eq (v I 0) (c 7))
 (.ret [a (sub (c 1) (v I 1))])
 (.ite (eq (v I 0) (c 8))
 (.ret [a (.o2 (.mn .i64) (v I 1) (v I 2))])
 (.ret [a (.o2 (.mx .i64) (v I 1) (v I 2))])))))))
def tr_impl_eval:Tr:=.guard (le (c 0) (ln (v (L T4) 0)))
 (.guard (le (ln (v (L T4) 0)) (c 549755813888))
 (.loop [a (v (L I) 1),a (v (L T4) 0),a (ln (v (L T4) 0)),a (c 0),a (rep (ln (v (L T4) 0)) (z I))]
 (.ite (lt (v I 3) (v I 2))
 (.join
 (.guard (le (c 0) (v I 3))
 (.guard (lt (v I 3) (ln (v (L T4) 1)))
 (.ite (eq (f (ix (v (L T4) 1) (v I 3))) (c 0))
 (.guard (le (c 0) (v I 3))
 (.guard (lt (v I 3) (ln (v (L I) 4)))
 (.jump 0 [a (v (L I) 0),a (v (L T4) 1),a (v I 2),a (v I 3),a (st (v (L I) 4) (v I 3) (f (s (ix (v (L T4) 1) (v I 3)))))])))
 (.ite (eq (f (ix (v (L T4) 1) (v I 3))) (c 1))
 (.guard (le (c 0) (f (s (ix (v (L T4) 1) (v I 3)))))
 (.guard (lt (f (s (ix (v (L T4) 1) (v I 3)))) (ln (v (L I) 0)))
 (.guard (le (c 0) (v I 3))
 (.guard (lt (v I 3) (ln (v (L I) 4)))
 (.jump 0 [a (v (L I) 0),a (v (L T4) 1),a (v I 2),a (v I 3),a (st (v (L I) 4) (v I 3) (ix (v (L I) 0) (f (s (ix (v (L T4) 1) (v I 3))))))])))))
 (.guard (le (c 0) (f (s (s (ix (v (L T4) 1) (v I 3))))))
 (.guard (lt (f (s (s (ix (v (L T4) 1) (v I 3))))) (ln (v (L I) 4)))
 (.guard (le (c 0) (s (s (s (ix (v (L T4) 1) (v I 3))))))
 (.guard (lt (s (s (s (ix (v (L T4) 1) (v I 3))))) (ln (v (L I) 4)))
 (.call f_impl_do [a (f (ix (v (L T4) 1) (v I 3))),a (ix (v (L I) 4) (f (s (s (ix (v (L T4) 1) (v I 3)))))),a (ix (v (L I) 4) (s (s (s (ix (v (L T4) 1) (v I 3))))))] 1734
 (.guard (le (c 0) (v I 3))
 (.guard (lt (v I 3) (ln (v (L I) 4)))
 (.jump 0 [a (v (L I) 0),a (v (L T4) 1),a (v I 2),a (v I 3),a (st (v (L I) 4) (v I 3) (v I 1734))]))))))))))))
 (.jump 0 [a (v (L I) 0),a (v (L T4) 1),a (v I 2),a (add (v I 3) (c 1)),a (v (L I) 4)]))
 (.guard (le (c 0) (sub (ln (v (L I) 4)) (c 1)))
 (.guard (lt (sub (ln (v (L I) 4)) (c 1)) (ln (v (L I) 4)))
 (.ret [a (ix (v (L I) 4) (sub (ln (v (L I) 4)) (c 1)))]))))))
def tr_impl_clone_int:Tr:=.ite (eq (ln (v (L I) 0)) (c 0))
 (.ret [a (nl I)])
 (.guard (le (c 0) (ln (v (L I) 0)))
 (.guard (le (ln (v (L I) 0)) (c 549755813888))
 (.ret [a (over (rep (ln (v (L I) 0)) (z I)) (v (L I) 0))])))
end Go.Proofs.YtifkpliahhodoaaGreat
namespace Go.Proofs.YtifkpliahhodoaaGreat
open Go Go.Sm Go.Sm.Q
def tr_impl_inRange:Tr:=.ite (ne (ln (v (L I) 2)) (ln (v (L V3) 0)))
 (.ret [a (k false)])
 (.loop [a (v (L I) 2),a (v (L V3) 0),a (ln (v (L V3) 0)),a (c 0)]
 (.ite (lt (v I 3) (v I 2))
 (.guard (le (c 0) (v I 3))
 (.guard (lt (v I 3) (ln (v (L V3) 1)))
 (.guard (le (c 0) (v I 3))
 (.guard (lt (v I 3) (ln (v (L I) 0)))
 (.call f_impl_in [a (ix (v (L I) 0) (v I 3)),a (f (ix (v (L V3) 1) (v I 3))),a (f (s (ix (v (L V3) 1) (v I 3))))] 964
 (.ite (nt (v B 964))
 (.ret [a (k false)])
 (.jump 0 [a (v (L I) 0),a (v (L V3) 1),a (v I 2),a (add (v I 3) (c 1))])))))))
 (.ret [a (k true)])))
def tr_impl_use:Tr:=.guard (le (c 0) (v I 3))
 (.guard (lt (v I 3) (ln (v (L TR) 1)))
 (.call f_impl_eval [a (f (ix (v (L TR) 1) (v I 3))),a (v (L I) 2)] 100832
 (.ite (eq (v I 100832) (c 0))
 (.ret [a (nl I),a (k false)])
 (.call f_impl_clone_int [a (v (L I) 2)] 101024
 (.loop [a (v (L I) 2),a (f (s (ix (v (L TR) 1) (v I 3)))),a (ln (f (s (ix (v (L TR) 1) (v I 3))))),a (c 0),a (v (L V3) 0),a (v (L TR) 1),a (f (ix (v (L TR) 1) (v I 3))),a (f (s (ix (v (L TR) 1) (v I 3)))),a (s (s (ix (v (L TR) 1) (v I 3)))),a (v (L I) 101024)]
 (.ite (lt (v I 3) (v I 2))
 (.guard (le (c 0) (v I 3))
 (.guard (lt (v I 3) (ln (v (L I) 1)))
 (.guard (le (c 0) (v I 3))
 (.guard (lt (v I 3) (ln (v (L (L T4)) 8)))
 (.call f_impl_eval [a (ix (v (L (L T4)) 8) (v I 3)),a (v (L I) 0)] 909
 (.guard (le (c 0) (ix (v (L I) 1) (v I 3)))
 (.guard (lt (ix (v (L I) 1) (v I 3)) (ln (v (L I) 9)))
 (.jump 0 [a (v (L I) 0),a (v (L I) 1),a (v I 2),a (add (v I 3) (c 1)),a (v (L V3) 4),a (v (L TR) 5),a (v (L T4) 6),a (v (L I) 7),a (v (L (L T4)) 8),a (st (v (L I) 9) (ix (v (L I) 1) (v I 3)) (v I 909))]))))))))
 (.call f_impl_inRange [a (v (L V3) 4),a (v (L TR) 5),a (v (L I) 9)] 205
 (.ite (nt (v B 205))
 (.ret [a (nl I),a (k false)])
 (.ret [a (v (L I) 9),a (k true)])))))))))
def tr_cmp_isNaN_int:Tr:=.ret [a (ne (v I 0) (v I 0))]
def tr_cmp_Compare_int:Tr:=.call f_cmp_isNaN_int [a (v I 0)] 100128
 (.call f_cmp_isNaN_int [a (v I 1)] 100320
 (.ite (v B 100128)
 (.ite (v B 100320)
 (.ret [a (c 0)])
 (.ret [a (c (-1))]))
 (.ite (v B 100320)
 (.ret [a (c 1)])
 (.ite (lt (v I 0) (v I 1))
 (.ret [a (c (-1))])
 (.ite (gt (v I 0) (v I 1))
 (.ret [a (c 1)])
 (.ret [a (c 0)]))))))
def tr_slices_Compare_Sint_int:Tr:=.loop [a (v (L I) 0),a (v (L I) 1),a (v (L I) 0),a (ln (v (L I) 0)),a (c 0)]
 (.ite (lt (v I 4) (v I 3))
 (.guard (le (c 0) (v I 4))
 (.guard (lt (v I 4) (ln (v (L I) 2)))
 (.ite (ge (v I 4) (ln (v (L I) 1)))
 (.ret [a (c 1)])
 (.guard (le (c 0) (v I 4))
 (.guard (lt (v I 4) (ln (v (L I) 1)))
 (.call f_cmp_Compare_int [a (ix (v (L I) 2) (v I 4)),a (ix (v (L I) 1) (v I 4))] 1093
 (.ite (ne (v I 1093) (c 0))
 (.ret [a (v I 1093)])
 (.jump 0 [a (v (L I) 0),a (v (L I) 1),a (v (L I) 2),a (v I 3),a (add (v I 4) (c 1))]))))))))
 (.ite (lt (ln (v (L I) 0)) (ln (v (L I) 1)))
 (.ret [a (c (-1))])
 (.ret [a (c 0)])))
def tr_slices_Reverse_SSint_Sint:Tr:=.loop [a (c 0),a (sub (ln (v (L (L I)) 0)) (c 1)),a (v (L (L I)) 0)]
 (.ite (lt (v I 0) (v I 1))
 (.guard (le (c 0) (v I 1))
 (.guard (lt (v I 1) (ln (v (L (L I)) 2)))
 (.guard (le (c 0) (v I 0))
 (.guard (lt (v I 0) (ln (v (L (L I)) 2)))
 (.guard (le (c 0) (v I 0))
 (.guard (lt (v I 0) (ln (v (L (L I)) 2)))
 (.guard (le (c 0) (v I 1))
 (.guard (lt (v I 1) (ln (st (v (L (L I)) 2) (v I 0) (ix (v (L (L I)) 2) (v I 1)))))
 (.jump 0 [a (add (v I 0) (c 1)),a (sub (v I 1) (c 1)),a (st (st (v (L (L I)) 2) (v I 0) (ix (v (L (L I)) 2) (v I 1))) (v I 1) (ix (v (L (L I)) 2) (v I 0)))])))))))))
 (.ret []))
def tr_impl_clone_Sint:Tr:=.ite (eq (ln (v (L (L I)) 0)) (c 0))
 (.ret [a (nl (L I))])
 (.guard (le (c 0) (ln (v (L (L I)) 0)))
 (.guard (le (ln (v (L (L I)) 0)) (c 549755813888))
 (.ret [a (over (rep (ln (v (L (L I)) 0)) (z (L I))) (v (L (L I)) 0))])))
def tr_impl_nextStates:Tr:=.loop [a (v (L I) 2),a (ln (v (L TR) 1)),a (c 0),a (v (L V3) 0),a (v (L TR) 1),a (nl (L I))]
 (.ite (lt (v I 2) (v I 1))
 (.join
 (.call f_impl_use [a (v (L V3) 3),a (v (L TR) 4),a (v (L I) 0),a (v I 2)] 392
 (.ite (v B 393)
 (.join
 (.loop [a (ln (v (L (L I)) 5)),a (c 0),a (ln (v (L (L I)) 5)),a (v (L I) 0),a (v I 1),a (v I 2),a (v (L (L I)) 5),a (v (L I) 392),a (v (L V3) 3),a (v (L TR) 4)]
 (.ite (lt (v I 1) (v I 2))
 (.guard (le (c 0) (.o1 (.conv .u64 .i64) (.o2 (.sh false .u64 .u64) (.o1 (.conv .i64 .u64) (add (v I 1) (v I 2))) (.int .u64 1))))
 (.guard (lt (.o1 (.conv .u64 .i64) (.o2 (.sh false .u64 .u64) (.o1 (.conv .i64 .u64) (add (v I 1) (v I 2))) (.int .u64 1))) (ln (v (L (L I)) 6)))
 (.call f_slices_Compare_Sint_int [a (ix (v (L (L I)) 6) (.o1 (.conv .u64 .i64) (.o2 (.sh false .u64 .u64) (.o1 (.conv .i64 .u64) (add (v I 1) (v I 2))) (.int .u64 1)))),a (v (L I) 7)] 1037
 (.ite (lt (v I 1037) (c 0))
 (.jump 0 [a (v I 0),a (add (.o1 (.conv .u64 .i64) (.o2 (.sh false .u64 .u64) (.o1 (.conv .i64 .u64) (add (v I 1) (v I 2))) (.int .u64 1))) (c 1)),a (v I 2),a (v (L I) 3),a (v I 4),a (v I 5),a (v (L (L I)) 6),a (v (L I) 7),a (v (L V3) 8),a (v (L TR) 9)])
 (.jump 0 [a (v I 0),a (v I 1),a (.o1 (.conv .u64 .i64) (.o2 (.sh false .u64 .u64) (.o1 (.conv .i64 .u64) (add (v I 1) (v I 2))) (.int .u64 1))),a (v (L I) 3),a (v I 4),a (v I 5),a (v (L (L I)) 6),a (v (L I) 7),a (v (L V3) 8),a (v (L TR) 9)])))))
 (.ite (lt (v I 1) (v I 0))
 (.guard (le (c 0) (v I 1))
 (.guard (lt (v I 1) (ln (v (L (L I)) 6)))
 (.call f_slices_Compare_Sint_int [a (ix (v (L (L I)) 6) (v I 1)),a (v (L I) 7)] 909
 (.jump 1 [a (v (L I) 3),a (v I 1),a (eq (v I 909) (c 0)),a (v I 4),a (v I 5),a (v (L V3) 8),a (v (L TR) 9),a (v (L (L I)) 6),a (v (L I) 7)]))))
 (.jump 1 [a (v (L I) 3),a (v I 1),a (k false),a (v I 4),a (v I 5),a (v (L V3) 8),a (v (L TR) 9),a (v (L (L I)) 6),a (v (L I) 7)]))))
 (.ite (nt (v B 2))
 (.guard (le (c 0) (v I 1))
 (.guard (le (v I 1) (ln (v (L (L I)) 7)))
 (.guard (le (ln (v (L (L I)) 7)) (c 549755813888))
 (.guard (eq (ln (one (v (L I) 8))) (c 1))
 (.jump 0 [a (v (L I) 0),a (v I 3),a (v I 4),a (v (L V3) 5),a (v (L TR) 6),a (app (app (take (v (L (L I)) 7) (v I 1)) (one (v (L I) 8))) (drop (v (L (L I)) 7) (v I 1)))])))))
 (.jump 0 [a (v (L I) 0),a (v I 3),a (v I 4),a (v (L V3) 5),a (v (L TR) 6),a (v (L (L I)) 7)])))
 (.jump 0 [a (v (L I) 0),a (v I 1),a (v I 2),a (v (L V3) 3),a (v (L TR) 4),a (v (L (L I)) 5)])))
 (.jump 0 [a (v (L I) 0),a (v I 1),a (add (v I 2) (c 1)),a (v (L V3) 3),a (v (L TR) 4),a (v (L (L I)) 5)]))
 (.call f_impl_clone_Sint [a (v (L (L I)) 5)] 136
 (.ret [a (v (L (L I)) 136)])))
def tr_impl_number:Tr:=.loop [a (v (L I) 2),a (c 0),a (v (L V3) 0),a (ln (v (L V3) 0)),a (c 0)]
 (.ite (lt (v I 4) (v I 3))
 (.guard (le (c 0) (v I 4))
 (.guard (lt (v I 4) (ln (v (L V3) 2)))
 (.guard (le (c 0) (v I 4))
 (.guard (lt (v I 4) (ln (v (L I) 0)))
 (.jump 0 [a (v (L I) 0),a (sub (add (mul (v I 1) (add (sub (f (s (ix (v (L V3) 2) (v I 4)))) (f (ix (v (L V3) 2) (v I 4)))) (c 1))) (ix (v (L I) 0) (v I 4))) (f (ix (v (L V3) 2) (v I 4)))),a (v (L V3) 2),a (v I 3),a (add (v I 4) (c 1))])))))
 (.ret [a (v I 1)]))
def tr_impl_nexts:Tr:=.call f_impl_size [a (v (L V3) 0)] 100256
 (.guard (le (c 0) (v I 100256))
 (.guard (le (v I 100256) (c 549755813888))
 (.loop [a (ln (rep (v I 100256) (z (L I)))),a (c 0),a (v (L V3) 0),a (v (L TR) 1),a (rep (v I 100256) (z (L I)))]
 (.ite (lt (v I 1) (v I 0))
 (.call f_impl_stateAt [a (v (L V3) 2),a (v (L TR) 3),a (v I 1)] 455
 (.call f_impl_nextStates [a (v (L V3) 2),a (v (L TR) 3),a (v (L I) 455)] 519
 (.loop [a (v I 1),a (v I 0),a (v I 1),a (ln (v (L (L I)) 519)),a (c 0),a (v (L V3) 2),a (v (L TR) 3),a (v (L (L I)) 4),a (v (L (L I)) 519)]
 (.ite (lt (v I 4) (v I 3))
 (.guard (le (c 0) (v I 4))
 (.guard (lt (v I 4) (ln (v (L (L I)) 8)))
 (.guard (le (c 0) (v I 0))
 (.guard (lt (v I 0) (ln (v (L (L I)) 7)))
 (.call f_impl_number [a (v (L V3) 5),a (v (L TR) 6),a (ix (v (L (L I)) 8) (v I 4))] 780
 (.guard (le (ln (ix (v (L (L I)) 7) (v I 0))) (c 549755813888))
 (.guard (le (ln (one (v I 780))) (c 549755813888))
 (.guard (le (c 0) (v I 0))
 (.guard (lt (v I 0) (ln (v (L (L I)) 7)))
 (.jump 0 [a (v I 0),a (v I 1),a (v I 2),a (v I 3),a (add (v I 4) (c 1)),a (v (L V3) 5),a (v (L TR) 6),a (st (v (L (L I)) 7) (v I 0) (app (ix (v (L (L I)) 7) (v I 0)) (one (v I 780)))),a (v (L (L I)) 8)]))))))))))
 (.jump 1 [a (v I 1),a (add (v I 2) (c 1)),a (v (L V3) 5),a (v (L TR) 6),a (v (L (L I)) 7)])))))
 (.ret [a (v (L (L I)) 4)])))))
def tr_impl_followers:Tr:=.call f_impl_nexts [a (v (L V3) 0),a (v (L TR) 1)] 100192
 (.loop [a (ln (v (L (L I)) 100192)),a (c 0),a (v (L (L I)) 100192)]
 (.ite (lt (v I 1) (v I 0))
 (.join
 (.guard (le (c 0) (v I 1))
 (.guard (lt (v I 1) (ln (v (L (L I)) 2)))
 (.ite (eq (ln (ix (v (L (L I)) 2) (v I 1))) (c 0))
 (.guard (le (c 0) (v I 1))
 (.guard (lt (v I 1) (ln (v (L (L I)) 2)))
 (.jump 0 [a (v I 0),a (v I 1),a (st (v (L (L I)) 2) (v I 1) (one (v I 1)))])))
 (.jump 0 [a (v I 0),a (v I 1),a (v (L (L I)) 2)]))))
 (.jump 0 [a (v I 0),a (add (v I 1) (c 1)),a (v (L (L I)) 2)]))
 (.ret [a (v (L (L I)) 2)])))
def tr_impl_letters:Tr:=.guard (le (c 0) (ln (v (L (L T4)) 0)))
 (.guard (le (ln (v (L (L T4)) 0)) (c 549755813888))
 (.loop [a (v (L I) 1),a (v (L (L T4)) 0),a (ln (v (L (L T4)) 0)),a (c 0),a (rep (ln (v (L (L T4)) 0)) (z I))]
 (.ite (lt (v I 3) (v I 2))
 (.guard (le (c 0) (v I 3))
 (.guard (lt (v I 3) (ln (v (L (L T4)) 1)))
 (.call f_impl_eval [a (ix (v (L (L T4)) 1) (v I 3)),a (v (L I) 0)] 646
 (.guard (le (c 0) (v I 3))
 (.guard (lt (v I 3) (ln (v (L I) 4)))
 (.jump 0 [a (v (L I) 0),a (v (L (L T4)) 1),a (v I 2),a (add (v I 3) (c 1)),a (st (v (L I) 4) (v I 3) (v I 646))]))))))
 (.ret [a (v (L I) 4)]))))
def tr_impl_lettersAll:Tr:=.call f_impl_size [a (v (L V3) 0)] 100320
 (.loop [a (v (L (L T4)) 2),a (v I 100320),a (c 0),a (v (L V3) 0),a (v (L TR) 1),a (nl (L I))]
 (.ite (lt (v I 2) (v I 1))
 (.call f_impl_stateAt [a (v (L V3) 3),a (v (L TR) 4),a (v I 2)] 456
 (.call f_impl_letters [a (v (L (L T4)) 0),a (v (L I) 456)] 520
 (.guard (le (ln (v (L (L I)) 5)) (c 549755813888))
 (.guard (le (ln (one (v (L I) 520))) (c 549755813888))
 (.jump 0 [a (v (L (L T4)) 0),a (v I 1),a (add (v I 2) (c 1)),a (v (L V3) 3),a (v (L TR) 4),a (app (v (L (L I)) 5) (one (v (L I) 520)))])))))
 (.ret [a (v (L (L I)) 5)])))
def tr_impl_some:Tr:=.guard (le (c 0) (ln (v (L (L I)) 0)))
 (.guard (le (ln (v (L (L I)) 0)) (c 549755813888))
 (.loop [a (v (L (L I)) 0),a (ln (v (L (L I)) 0)),a (c 0),a (v (L B) 1),a (rep (ln (v (L (L I)) 0)) (z B))]
 (.ite (lt (v I 2) (v I 1))
 (.join
 (.guard (le (c 0) (v I 2))
 (.guard (lt (v I 2) (ln (v (L (L I)) 0)))
 (.loop [a (ix (v (L (L I)) 0) (v I 2)),a (ln (ix (v (L (L I)) 0) (v I 2))),a (c 0),a (v (L (L I)) 0),a (v I 1),a (v I 2),a (v I 2),a (v (L B) 3),a (v (L B) 4)]
 (.ite (lt (v I 2) (v I 1))
 (.guard (le (c 0) (v I 2))
 (.guard (lt (v I 2) (ln (v (L I) 0)))
 (.guard (le (c 0) (ix (v (L I) 0) (v I 2)))
 (.guard (lt (ix (v (L I) 0) (v I 2)) (ln (v (L B) 7)))
 (.ite (ix (v (L B) 7) (ix (v (L I) 0) (v I 2)))
 (.guard (le (c 0) (v I 6))
 (.guard (lt (v I 6) (ln (v (L B) 8)))
 (.jump 1 [a (v (L (L I)) 3),a (v I 4),a (v I 5),a (v (L B) 7),a (st (v (L B) 8) (v I 6) (ge (v I 2) (c 0)))])))
 (.jump 0 [a (v (L I) 0),a (v I 1),a (add (v I 2) (c 1)),a (v (L (L I)) 3),a (v I 4),a (v I 5),a (v I 6),a (v (L B) 7),a (v (L B) 8)]))))))
 (.guard (le (c 0) (v I 6))
 (.guard (lt (v I 6) (ln (v (L B) 8)))
 (.jump 1 [a (v (L (L I)) 3),a (v I 4),a (v I 5),a (v (L B) 7),a (st (v (L B) 8) (v I 6) (ge (c (-1)) (c 0)))])))))))
 (.jump 0 [a (v (L (L I)) 0),a (v I 1),a (add (v I 2) (c 1)),a (v (L B) 3),a (v (L B) 4)]))
 (.ret [a (v (L B) 4)]))))
def tr_impl_not:Tr:=.guard (le (c 0) (ln (v (L B) 0)))
 (.guard (le (ln (v (L B) 0)) (c 549755813888))
 (.loop [a (v (L B) 0),a (v (L B) 0),a (ln (v (L B) 0)),a (c 0),a (rep (ln (v (L B) 0)) (z B))]
 (.ite (lt (v I 3) (v I 2))
 (.guard (le (c 0) (v I 3))
 (.guard (lt (v I 3) (ln (v (L B) 0)))
 (.guard (le (c 0) (v I 3))
 (.guard (lt (v I 3) (ln (v (L B) 1)))
 (.guard (le (c 0) (v I 3))
 (.guard (lt (v I 3) (ln (v (L B) 4)))
 (.jump 0 [a (v (L B) 0),a (v (L B) 1),a (v I 2),a (add (v I 3) (c 1)),a (st (v (L B) 4) (v I 3) (nt (ix (v (L B) 0) (v I 3))))])))))))
 (.ret [a (v (L B) 4)]))))
def tr_slices_Equal_Sbool_bool:Tr:=.ite (ne (ln (v (L B) 0)) (ln (v (L B) 1)))
 (.ret [a (k false)])
 (.loop [a (v (L B) 0),a (v (L B) 1),a (ln (v (L B) 0)),a (c 0)]
 (.ite (lt (v I 3) (v I 2))
 (.guard (le (c 0) (v I 3))
 (.guard (lt (v I 3) (ln (v (L B) 0)))
 (.guard (le (c 0) (v I 3))
 (.guard (lt (v I 3) (ln (v (L B) 1)))
 (.ite (.o2 .bne (ix (v (L B) 0) (v I 3)) (ix (v (L B) 1) (v I 3)))
 (.ret [a (k false)])
 (.jump 0 [a (v (L B) 0),a (v (L B) 1),a (v I 2),a (add (v I 3) (c 1))]))))))
 (.ret [a (k true)])))
def tr_impl_treeRows:Tr:=.guard (le (c 0) (ln (v (L T4) 0)))
 (.guard (le (ln (v (L T4) 0)) (c 549755813888))
 (.loop [a (v (L (L I)) 2),a (v (L T4) 0),a (ln (v (L T4) 0)),a (c 0),a (v (L (L I)) 1),a (rep (ln (v (L T4) 0)) (z (L B)))]
 (.ite (lt (v I 3) (v I 2))
 (.join
 (.guard (le (c 0) (v I 3))
 (.guard (lt (v I 3) (ln (v (L T4) 1)))
 (.join
 (.ite (gt (f (ix (v (L T4) 1) (v I 3))) (c 1))
 (.guard (le (c 0) (f (s (s (ix (v (L T4) 1) (v I 3))))))
 (.guard (lt (f (s (s (ix (v (L T4) 1) (v I 3))))) (ln (v (L (L B)) 5)))
 (.guard (le (c 0) (s (s (s (ix (v (L T4) 1) (v I 3))))))
 (.guard (lt (s (s (s (ix (v (L T4) 1) (v I 3))))) (ln (v (L (L B)) 5)))
 (.jump 0 [a (v (L (L I)) 0),a (v I 3),a (ix (v (L (L B)) 5) (f (s (s (ix (v (L T4) 1) (v I 3)))))),a (ix (v (L (L B)) 5) (s (s (s (ix (v (L T4) 1) (v I 3)))))),a (v (L T4) 1),a (v I 2),a (v I 3),a (v (L (L I)) 4),a (v (L (L B)) 5),a (f (ix (v (L T4) 1) (v I 3))),a (f (s (ix (v (L T4) 1) (v I 3)))),a (f (s (s (ix (v (L T4) 1) (v I 3))))),a (s (s (s (ix (v (L T4) 1) (v I 3)))))])))))
 (.jump 0 [a (v (L (L I)) 0),a (v I 3),a (nl B),a (nl B),a (v (L T4) 1),a (v I 2),a (v I 3),a (v (L (L I)) 4),a (v (L (L B)) 5),a (f (ix (v (L T4) 1) (v I 3))),a (f (s (ix (v (L T4) 1) (v I 3)))),a (f (s (s (ix (v (L T4) 1) (v I 3))))),a (s (s (s (ix (v (L T4) 1) (v I 3)))))]))
 (.ite (eq (v I 9) (c 0))
 (.guard (le (c 0) (ln (v (L (L I)) 7)))
 (.guard (le (ln (v (L (L I)) 7)) (c 549755813888))
 (.guard (le (c 0) (v I 1))
 (.guard (lt (v I 1) (ln (v (L (L B)) 8)))
 (.guard (le (c 0) (v I 1))
 (.guard (lt (v I 1) (ln (v (L (L B)) 8)))
 (.loop [a (v (L (L I)) 0),a (v I 1),a (v (L T4) 4),a (v I 5),a (v I 6),a (ln (rep (ln (v (L (L I)) 7)) (z B))),a (c 0),a (v (L (L I)) 7),a (v (L (L B)) 8),a (v I 1),a (rep (ln (v (L (L I)) 7)) (z B)),a (v I 9),a (v I 10),a (v I 11),a (v I 12)]
 (.ite (lt (v I 6) (v I 5))
 (.join
 (.guard (le (c 0) (v I 1))
 (.guard (lt (v I 1) (ln (v (L (L B)) 8)))
 (.guard (eq (v I 1) (v I 9))
 (.ite (eq (v I 11) (c 0))
 (.guard (le (c 0) (v I 6))
 (.guard (lt (v I 6) (ln (v (L B) 10)))
 (.jump 0 [a (v (L (L I)) 0),a (v I 1),a (v (L T4) 2),a (v I 3),a (v I 4),a (v I 5),a (v I 6),a (v (L (L I)) 7),a (v (L (L B)) 8),a (v I 9),a (st (v (L B) 10) (v I 6) (k true)),a (v I 11),a (v I 12),a (v I 13),a (v I 14)])))
 (.guard (le (c 0) (v I 6))
 (.guard (lt (v I 6) (ln (v (L (L I)) 0)))
 (.guard (le (c 0) (v I 12))
 (.guard (lt (v I 12) (ln (ix (v (L (L I)) 0) (v I 6))))
 (.guard (le (c 0) (v I 6))
 (.guard (lt (v I 6) (ln (v (L B) 10)))
 (.jump 0 [a (v (L (L I)) 0),a (v I 1),a (v (L T4) 2),a (v I 3),a (v I 4),a (v I 5),a (v I 6),a (v (L (L I)) 7),a (v (L (L B)) 8),a (v I 9),a (st (v (L B) 10) (v I 6) (eq (ix (ix (v (L (L I)) 0) (v I 6)) (v I 12)) (c 1))),a (v I 11),a (v I 12),a (v I 13),a (v I 14)])))))))))))
 (.jump 0 [a (v (L (L I)) 0),a (v I 1),a (v (L T4) 2),a (v I 3),a (v I 4),a (v I 5),a (add (v I 6) (c 1)),a (v (L (L I)) 7),a (v (L (L B)) 8),a (v I 9),a (v (L B) 10),a (v I 11),a (v I 12),a (v I 13),a (v I 14)]))
 (.jump 1 [a (v (L (L I)) 0),a (v (L T4) 2),a (v I 3),a (v I 4),a (v (L (L I)) 7),a (st (v (L (L B)) 8) (v I 9) (v (L B) 10))])))))))))
 (.ite (eq (v I 9) (c 1))
 (.guard (le (c 0) (ln (v (L (L I)) 7)))
 (.guard (le (ln (v (L (L I)) 7)) (c 549755813888))
 (.guard (le (c 0) (v I 1))
 (.guard (lt (v I 1) (ln (v (L (L B)) 8)))
 (.guard (le (c 0) (v I 1))
 (.guard (lt (v I 1) (ln (v (L (L B)) 8)))
 (.loop [a (v (L (L I)) 0),a (v I 1),a (v (L T4) 4),a (v I 5),a (v I 6),a (ln (rep (ln (v (L (L I)) 7)) (z B))),a (c 0),a (v (L (L I)) 7),a (v (L (L B)) 8),a (v I 1),a (rep (ln (v (L (L I)) 7)) (z B)),a (v I 9),a (v I 10),a (v I 11),a (v I 12)]
 (.ite (lt (v I 6) (v I 5))
 (.join
 (.guard (le (c 0) (v I 1))
 (.guard (lt (v I 1) (ln (v (L (L B)) 8)))
 (.guard (eq (v I 1) (v I 9))
 (.ite (eq (v I 11) (c 0))
 (.guard (le (c 0) (v I 6))
 (.guard (lt (v I 6) (ln (v (L B) 10)))
 (.jump 0 [a (v (L (L I)) 0),a (v I 1),a (v (L T4) 2),a (v I 3),a (v I 4),a (v I 5),a (v I 6),a (v (L (L I)) 7),a (v (L (L B)) 8),a (v I 9),a (st (v (L B) 10) (v I 6) (k true)),a (v I 11),a (v I 12),a (v I 13),a (v I 14)])))
 (.guard (le (c 0) (v I 6))
 (.guard (lt (v I 6) (ln (v (L (L I)) 0)))
 (.guard (le (c 0) (v I 12))
 (.guard (lt (v I 12) (ln (ix (v (L (L I)) 0) (v I 6))))
 (.guard (le (c 0) (v I 6))
 (.guard (lt (v I 6) (ln (v (L B) 10)))
 (.jump 0 [a (v (L (L I)) 0),a (v I 1),a (v (L T4) 2),a (v I 3),a (v I 4),a (v I 5),a (v I 6),a (v (L (L I)) 7),a (v (L (L B)) 8),a (v I 9),a (st (v (L B) 10) (v I 6) (eq (ix (ix (v (L (L I)) 0) (v I 6)) (v I 12)) (c 1))),a (v I 11),a (v I 12),a (v I 13),a (v I 14)])))))))))))
 (.jump 0 [a (v (L (L I)) 0),a (v I 1),a (v (L T4) 2),a (v I 3),a (v I 4),a (v I 5),a (add (v I 6) (c 1)),a (v (L (L I)) 7),a (v (L (L B)) 8),a (v I 9),a (v (L B) 10),a (v I 11),a (v I 12),a (v I 13),a (v I 14)]))
 (.jump 1 [a (v (L (L I)) 0),a (v (L T4) 2),a (v I 3),a (v I 4),a (v (L (L I)) 7),a (st (v (L (L B)) 8) (v I 9) (v (L B) 10))])))))))))
 (.ite (eq (v I 9) (c 2))
 (.call f_impl_not [a (v (L B) 2)] 720
 (.guard (le (c 0) (v I 1))
 (.guard (lt (v I 1) (ln (v (L (L B)) 8)))
 (.jump 0 [a (v (L (L I)) 0),a (v (L T4) 4),a (v I 5),a (v I 6),a (v (L (L I)) 7),a (st (v (L (L B)) 8) (v I 1) (v (L B) 720))]))))
 (.ite (eq (v I 9) (c 3))
 (.guard (le (c 0) (ln (v (L B) 2)))
 (.guard (le (ln (v (L B) 2)) (c 549755813888))
 (.loop [a (v (L B) 2),a (v (L B) 3),a (ln (v (L B) 2)),a (c 0),a (v (L (L I)) 0),a (v (L T4) 4),a (v I 5),a (v I 6),a (v I 1),a (rep (ln (v (L B) 2)) (z B)),a (v (L (L I)) 7),a (v (L (L B)) 8)]
 (.ite (lt (v I 3) (v I 2))
 (.join
 (.guard (le (c 0) (v I 3))
 (.guard (lt (v I 3) (ln (v (L B) 0)))
 (.guard (le (c 0) (v I 3))
 (.guard (lt (v I 3) (ln (v (L B) 1)))
 (.ite (ix (v (L B) 0) (v I 3))
 (.guard (le (c 0) (v I 3))
 (.guard (lt (v I 3) (ln (v (L B) 9)))
 (.jump 0 [a (v (L B) 0),a (v (L B) 1),a (v I 2),a (v I 3),a (v (L (L I)) 4),a (v (L T4) 5),a (v I 6),a (v I 7),a (v I 8),a (st (v (L B) 9) (v I 3) (ix (v (L B) 1) (v I 3))),a (v (L (L I)) 10),a (v (L (L B)) 11)])))
 (.guard (le (c 0) (v I 3))
 (.guard (lt (v I 3) (ln (v (L B) 9)))
 (.jump 0 [a (v (L B) 0),a (v (L B) 1),a (v I 2),a (v I 3),a (v (L (L I)) 4),a (v (L T4) 5),a (v I 6),a (v I 7),a (v I 8),a (st (v (L B) 9) (v I 3) (k false)),a (v (L (L I)) 10),a (v (L (L B)) 11)]))))))))
 (.jump 0 [a (v (L B) 0),a (v (L B) 1),a (v I 2),a (add (v I 3) (c 1)),a (v (L (L I)) 4),a (v (L T4) 5),a (v I 6),a (v I 7),a (v I 8),a (v (L B) 9),a (v (L (L I)) 10),a (v (L (L B)) 11)]))
 (.guard (le (c 0) (v I 8))
 (.guard (lt (v I 8) (ln (v (L (L B)) 11)))
 (.jump 1 [a (v (L (L I)) 4),a (v (L T4) 5),a (v I 6),a (v I 7),a (v (L (L I)) 10),a (st (v (L (L B)) 11) (v I 8) (v (L B) 9))])))))))
 (.ite (eq (v I 9) (c 4))
 (.guard (le (c 0) (ln (v (L B) 2)))
 (.guard (le (ln (v (L B) 2)) (c 549755813888))
 (.loop [a (v (L B) 2),a (v (L B) 3),a (ln (v (L B) 2)),a (c 0),a (v (L (L I)) 0),a (v (L T4) 4),a (v I 5),a (v I 6),a (v I 1),a (rep (ln (v (L B) 2)) (z B)),a (v (L (L I)) 7),a (v (L (L B)) 8)]
 (.ite (lt (v I 3) (v I 2))
 (.join
 (.guard (le (c 0) (v I 3))
 (.guard (lt (v I 3) (ln (v (L B) 0)))
 (.guard (le (c 0) (v I 3))
 (.guard (lt (v I 3) (ln (v (L B) 1)))
 (.ite (ix (v (L B) 0) (v I 3))
 (.guard (le (c 0) (v I 3))
 (.guard (lt (v I 3) (ln (v (L B) 9)))
 (.jump 0 [a (v (L B) 0),a (v (L B) 1),a (v I 2),a (v I 3),a (v (L (L I)) 4),a (v (L T4) 5),a (v I 6),a (v I 7),a (v I 8),a (st (v (L B) 9) (v I 3) (k true)),a (v (L (L I)) 10),a (v (L (L B)) 11)])))
 (.guard (le (c 0) (v I 3))
 (.guard (lt (v I 3) (ln (v (L B) 9)))
 (.jump 0 [a (v (L B) 0),a (v (L B) 1),a (v I 2),a (v I 3),a (v (L (L I)) 4),a (v (L T4) 5),a (v I 6),a (v I 7),a (v I 8),a (st (v (L B) 9) (v I 3) (ix (v (L B) 1) (v I 3))),a (v (L (L I)) 10),a (v (L (L B)) 11)]))))))))
 (.jump 0 [a (v (L B) 0),a (v (L B) 1),a (v I 2),a (add (v I 3) (c 1)),a (v (L (L I)) 4),a (v (L T4) 5),a (v I 6),a (v I 7),a (v I 8),a (v (L B) 9),a (v (L (L I)) 10),a (v (L (L B)) 11)]))
 (.guard (le (c 0) (v I 8))
 (.guard (lt (v I 8) (ln (v (L (L B)) 11)))
 (.jump 1 [a (v (L (L I)) 4),a (v (L T4) 5),a (v I 6),a (v I 7),a (v (L (L I)) 10),a (st (v (L (L B)) 11) (v I 8) (v (L B) 9))])))))))
 (.ite (eq (v I 9) (c 5))
 (.call f_impl_some [a (v (L (L I)) 7),a (v (L B) 2)] 1168
 (.guard (le (c 0) (v I 1))
 (.guard (lt (v I 1) (ln (v (L (L B)) 8)))
 (.jump 0 [a (v (L (L I)) 0),a (v (L T4) 4),a (v I 5),a (v I 6),a (v (L (L I)) 7),a (st (v (L (L B)) 8) (v I 1) (v (L B) 1168))]))))
 (.ite (eq (v I 9) (c 8))
 (.call f_impl_not [a (v (L B) 2)] 1296
 (.call f_impl_some [a (v (L (L I)) 7),a (v (L B) 1296)] 1360
 (.call f_impl_not [a (v (L B) 1360)] 1424
 (.guard (le (c 0) (v I 1))
 (.guard (lt (v I 1) (ln (v (L (L B)) 8)))
 (.jump 0 [a (v (L (L I)) 0),a (v (L T4) 4),a (v I 5),a (v I 6),a (v (L (L I)) 7),a (st (v (L (L B)) 8) (v I 1) (v (L B) 1424))]))))))
 (.ite (eq (v I 9) (c 6))
 (.loop [a (v (L B) 3),a (v (L (L I)) 0),a (v (L T4) 4),a (v I 5),a (v I 6),a (v I 1),a (v (L (L I)) 7),a (eq (v I 9) (c 9)),a (v (L B) 3),a (v (L B) 2),a (v (L (L B)) 8)]
 (.call f_impl_some [a (v (L (L I)) 6),a (v (L B) 0)] 400
 (.join
 (.ite (v B 7)
 (.call f_impl_not [a (v (L B) 0)] 720
 (.call f_impl_some [a (v (L (L I)) 6),a (v (L B) 720)] 784
 (.call f_impl_not [a (v (L B) 784)] 848
 (.jump 0 [a (v (L B) 0),a (v (L (L I)) 1),a (v (L T4) 2),a (v I 3),a (v I 4),a (v I 5),a (v (L B) 8),a (v (L B) 9),a (v (L B) 848),a (v (L (L I)) 6),a (v B 7),a (v (L (L B)) 10)]))))
 (.jump 0 [a (v (L B) 0),a (v (L (L I)) 1),a (v (L T4) 2),a (v I 3),a (v I 4),a (v I 5),a (v (L B) 8),a (v (L B) 9),a (v (L B) 400),a (v (L (L I)) 6),a (v B 7),a (v (L (L B)) 10)]))
 (.guard (le (c 0) (ln (v (L B) 7)))
 (.guard (le (ln (v (L B) 7)) (c 549755813888))
 (.loop [a (v (L B) 7),a (ln (v (L B) 7)),a (c 0),a (v (L B) 6),a (v (L B) 0),a (v (L (L I)) 1),a (v (L T4) 2),a (v I 3),a (v I 4),a (v I 5),a (v (L B) 8),a (rep (ln (v (L B) 7)) (z B)),a (v (L (L I)) 9),a (v B 10),a (v (L B) 6),a (v (L B) 7),a (v (L (L B)) 11)]
 (.ite (lt (v I 2) (v I 1))
 (.join
 (.guard (le (c 0) (v I 2))
 (.guard (lt (v I 2) (ln (v (L B) 0)))
 (.guard (le (c 0) (v I 2))
 (.guard (lt (v I 2) (ln (v (L B) 10)))
 (.ite (ix (v (L B) 0) (v I 2))
 (.guard (le (c 0) (v I 2))
 (.guard (lt (v I 2) (ln (v (L B) 11)))
 (.jump 0 [a (v (L B) 0),a (v I 1),a (v I 2),a (v (L B) 3),a (v (L B) 4),a (v (L (L I)) 5),a (v (L T4) 6),a (v I 7),a (v I 8),a (v I 9),a (v (L B) 10),a (st (v (L B) 11) (v I 2) (ix (v (L B) 10) (v I 2))),a (v (L (L I)) 12),a (v B 13),a (v (L B) 14),a (v (L B) 15),a (v (L (L B)) 16)])))
 (.guard (le (c 0) (v I 2))
 (.guard (lt (v I 2) (ln (v (L B) 11)))
 (.jump 0 [a (v (L B) 0),a (v I 1),a (v I 2),a (v (L B) 3),a (v (L B) 4),a (v (L (L I)) 5),a (v (L T4) 6),a (v I 7),a (v I 8),a (v I 9),a (v (L B) 10),a (st (v (L B) 11) (v I 2) (k false)),a (v (L (L I)) 12),a (v B 13),a (v (L B) 14),a (v (L B) 15),a (v (L (L B)) 16)]))))))))
 (.jump 0 [a (v (L B) 0),a (v I 1),a (add (v I 2) (c 1)),a (v (L B) 3),a (v (L B) 4),a (v (L (L I)) 5),a (v (L T4) 6),a (v I 7),a (v I 8),a (v I 9),a (v (L B) 10),a (v (L B) 11),a (v (L (L I)) 12),a (v B 13),a (v (L B) 14),a (v (L B) 15),a (v (L (L B)) 16)]))
 (.guard (le (c 0) (ln (v (L B) 3)))
 (.guard (le (ln (v (L B) 3)) (c 549755813888))
 (.loop [a (v (L B) 3),a (ln (v (L B) 3)),a (c 0),a (v (L B) 4),a (v (L (L I)) 5),a (v (L T4) 6),a (v I 7),a (v I 8),a (v I 9),a (v (L B) 11),a (rep (ln (v (L B) 3)) (z B)),a (v (L (L I)) 12),a (v B 13),a (v (L B) 14),a (v (L B) 15),a (v (L (L B)) 16)]
 (.ite (lt (v I 2) (v I 1))
 (.join
 (.guard (le (c 0) (v I 2))
 (.guard (lt (v I 2) (ln (v (L B) 0)))
 (.guard (le (c 0) (v I 2))
 (.guard (lt (v I 2) (ln (v (L B) 9)))
 (.ite (ix (v (L B) 0) (v I 2))
 (.guard (le (c 0) (v I 2))
 (.guard (lt (v I 2) (ln (v (L B) 10)))
 (.jump 0 [a (v (L B) 0),a (v I 1),a (v I 2),a (v (L B) 3),a (v (L (L I)) 4),a (v (L T4) 5),a (v I 6),a (v I 7),a (v I 8),a (v (L B) 9),a (st (v (L B) 10) (v I 2) (k true)),a (v (L (L I)) 11),a (v B 12),a (v (L B) 13),a (v (L B) 14),a (v (L (L B)) 15)])))
 (.guard (le (c 0) (v I 2))
 (.guard (lt (v I 2) (ln (v (L B) 10)))
 (.jump 0 [a (v (L B) 0),a (v I 1),a (v I 2),a (v (L B) 3),a (v (L (L I)) 4),a (v (L T4) 5),a (v I 6),a (v I 7),a (v I 8),a (v (L B) 9),a (st (v (L B) 10) (v I 2) (ix (v (L B) 9) (v I 2))),a (v (L (L I)) 11),a (v B 12),a (v (L B) 13),a (v (L B) 14),a (v (L (L B)) 15)]))))))))
 (.jump 0 [a (v (L B) 0),a (v I 1),a (add (v I 2) (c 1)),a (v (L B) 3),a (v (L (L I)) 4),a (v (L T4) 5),a (v I 6),a (v I 7),a (v I 8),a (v (L B) 9),a (v (L B) 10),a (v (L (L I)) 11),a (v B 12),a (v (L B) 13),a (v (L B) 14),a (v (L (L B)) 15)]))
 (.join
 (.jump 0 [a (v (L B) 3),a (v (L (L I)) 4),a (v (L T4) 5),a (v I 6),a (v I 7),a (v I 8),a (v (L B) 10),a (v (L (L I)) 11),a (v B 12),a (v (L B) 13),a (v (L B) 14),a (v (L (L B)) 15)])
 (.call f_slices_Equal_Sbool_bool [a (v (L B) 6),a (v (L B) 0)] 402
 (.ite (v B 402)
 (.guard (le (c 0) (v I 5))
 (.guard (lt (v I 5) (ln (v (L (L B)) 11)))
 (.jump 3 [a (v (L (L I)) 1),a (v (L T4) 2),a (v I 3),a (v I 4),a (v (L (L I)) 7),a (st (v (L (L B)) 11) (v I 5) (v (L B) 0))])))
 (.jump 2 [a (v (L B) 6),a (v (L (L I)) 1),a (v (L T4) 2),a (v I 3),a (v I 4),a (v I 5),a (v (L (L I)) 7),a (v B 8),a (v (L B) 9),a (v (L B) 10),a (v (L (L B)) 11)])))))))))))))))
 (.ite (eq (v I 9) (c 9))
 (.loop [a (v (L B) 3),a (v (L (L I)) 0),a (v (L T4) 4),a (v I 5),a (v I 6),a (v I 1),a (v (L (L I)) 7),a (eq (v I 9) (c 9)),a (v (L B) 3),a (v (L B) 2),a (v (L (L B)) 8)]
 (.call f_impl_some [a (v (L (L I)) 6),a (v (L B) 0)] 400
 (.join
 (.ite (v B 7)
 (.call f_impl_not [a (v (L B) 0)] 720
 (.call f_impl_some [a (v (L (L I)) 6),a (v (L B) 720)] 784
 (.call f_impl_not [a (v (L B) 784)] 848
 (.jump 0 [a (v (L B) 0),a (v (L (L I)) 1),a (v (L T4) 2),a (v I 3),a (v I 4),a (v I 5),a (v (L B) 8),a (v (L B) 9),a (v (L B) 848),a (v (L (L I)) 6),a (v B 7),a (v (L (L B)) 10)]))))
 (.jump 0 [a (v (L B) 0),a (v (L (L I)) 1),a (v (L T4) 2),a (v I 3),a (v I 4),a (v I 5),a (v (L B) 8),a (v (L B) 9),a (v (L B) 400),a (v (L (L I)) 6),a (v B 7),a (v (L (L B)) 10)]))
 (.guard (le (c 0) (ln (v (L B) 7)))
 (.guard (le (ln (v (L B) 7)) (c 549755813888))
 (.loop [a (v (L B) 7),a (ln (v (L B) 7)),a (c 0),a (v (L B) 6),a (v (L B) 0),a (v (L (L I)) 1),a (v (L T4) 2),a (v I 3),a (v I 4),a (v I 5),a (v (L B) 8),a (rep (ln (v (L B) 7)) (z B)),a (v (L (L I)) 9),a (v B 10),a (v (L B) 6),a (v (L B) 7),a (v (L (L B)) 11)]
 (.ite (lt (v I 2) (v I 1))
 (.join
 (.guard (le (c 0) (v I 2))
 (.guard (lt (v I 2) (ln (v (L B) 0)))
 (.guard (le (c 0) (v I 2))
 (.guard (lt (v I 2) (ln (v (L B) 10)))
 (.ite (ix (v (L B) 0) (v I 2))
 (.guard (le (c 0) (v I 2))
 (.guard (lt (v I 2) (ln (v (L B) 11)))
 (.jump 0 [a (v (L B) 0),a (v I 1),a (v I 2),a (v (L B) 3),a (v (L B) 4),a (v (L (L I)) 5),a (v (L T4) 6),a (v I 7),a (v I 8),a (v I 9),a (v (L B) 10),a (st (v (L B) 11) (v I 2) (ix (v (L B) 10) (v I 2))),a (v (L (L I)) 12),a (v B 13),a (v (L B) 14),a (v (L B) 15),a (v (L (L B)) 16)])))
 (.guard (le (c 0) (v I 2))
 (.guard (lt (v I 2) (ln (v (L B) 11)))
 (.jump 0 [a (v (L B) 0),a (v I 1),a (v I 2),a (v (L B) 3),a (v (L B) 4),a (v (L (L I)) 5),a (v (L T4) 6),a (v I 7),a (v I 8),a (v I 9),a (v (L B) 10),a (st (v (L B) 11) (v I 2) (k false)),a (v (L (L I)) 12),a (v B 13),a (v (L B) 14),a (v (L B) 15),a (v (L (L B)) 16)]))))))))
 (.jump 0 [a (v (L B) 0),a (v I 1),a (add (v I 2) (c 1)),a (v (L B) 3),a (v (L B) 4),a (v (L (L I)) 5),a (v (L T4) 6),a (v I 7),a (v I 8),a (v I 9),a (v (L B) 10),a (v (L B) 11),a (v (L (L I)) 12),a (v B 13),a (v (L B) 14),a (v (L B) 15),a (v (L (L B)) 16)]))
 (.guard (le (c 0) (ln (v (L B) 3)))
 (.guard (le (ln (v (L B) 3)) (c 549755813888))
 (.loop [a (v (L B) 3),a (ln (v (L B) 3)),a (c 0),a (v (L B) 4),a (v (L (L I)) 5),a (v (L T4) 6),a (v I 7),a (v I 8),a (v I 9),a (v (L B) 11),a (rep (ln (v (L B) 3)) (z B)),a (v (L (L I)) 12),a (v B 13),a (v (L B) 14),a (v (L B) 15),a (v (L (L B)) 16)]
 (.ite (lt (v I 2) (v I 1))
 (.join
 (.guard (le (c 0) (v I 2))
 (.guard (lt (v I 2) (ln (v (L B) 0)))
 (.guard (le (c 0) (v I 2))
 (.guard (lt (v I 2) (ln (v (L B) 9)))
 (.ite (ix (v (L B) 0) (v I 2))
 (.guard (le (c 0) (v I 2))
 (.guard (lt (v I 2) (ln (v (L B) 10)))
 (.jump 0 [a (v (L B) 0),a (v I 1),a (v I 2),a (v (L B) 3),a (v (L (L I)) 4),a (v (L T4) 5),a (v I 6),a (v I 7),a (v I 8),a (v (L B) 9),a (st (v (L B) 10) (v I 2) (k true)),a (v (L (L I)) 11),a (v B 12),a (v (L B) 13),a (v (L B) 14),a (v (L (L B)) 15)])))
 (.guard (le (c 0) (v I 2))
 (.guard (lt (v I 2) (ln (v (L B) 10)))
 (.jump 0 [a (v (L B) 0),a (v I 1),a (v I 2),a (v (L B) 3),a (v (L (L I)) 4),a (v (L T4) 5),a (v I 6),a (v I 7),a (v I 8),a (v (L B) 9),a (st (v (L B) 10) (v I 2) (ix (v (L B) 9) (v I 2))),a (v (L (L I)) 11),a (v B 12),a (v (L B) 13),a (v (L B) 14),a (v (L (L B)) 15)]))))))))
 (.jump 0 [a (v (L B) 0),a (v I 1),a (add (v I 2) (c 1)),a (v (L B) 3),a (v (L (L I)) 4),a (v (L T4) 5),a (v I 6),a (v I 7),a (v I 8),a (v (L B) 9),a (v (L B) 10),a (v (L (L I)) 11),a (v B 12),a (v (L B) 13),a (v (L B) 14),a (v (L (L B)) 15)]))
 (.join
 (.jump 0 [a (v (L B) 3),a (v (L (L I)) 4),a (v (L T4) 5),a (v I 6),a (v I 7),a (v I 8),a (v (L B) 10),a (v (L (L I)) 11),a (v B 12),a (v (L B) 13),a (v (L B) 14),a (v (L (L B)) 15)])
 (.call f_slices_Equal_Sbool_bool [a (v (L B) 6),a (v (L B) 0)] 402
 (.ite (v B 402)
 (.guard (le (c 0) (v I 5))
 (.guard (lt (v I 5) (ln (v (L (L B)) 11)))
 (.jump 3 [a (v (L (L I)) 1),a (v (L T4) 2),a (v I 3),a (v I 4),a (v (L (L I)) 7),a (st (v (L (L B)) 11) (v I 5) (v (L B) 0))])))
 (.jump 2 [a (v (L B) 6),a (v (L (L I)) 1),a (v (L T4) 2),a (v I 3),a (v I 4),a (v I 5),a (v (L (L I)) 7),a (v B 8),a (v (L B) 9),a (v (L B) 10),a (v (L (L B)) 11)])))))))))))))))
 (.loop [a (v (L B) 2),a (v (L (L I)) 0),a (v (L T4) 4),a (v I 5),a (v I 6),a (v I 1),a (v (L (L I)) 7),a (eq (v I 9) (c 10)),a (v (L B) 2),a (v (L (L B)) 8)]
 (.call f_impl_some [a (v (L (L I)) 6),a (v (L B) 0)] 398
 (.join
 (.ite (v B 7)
 (.call f_impl_not [a (v (L B) 0)] 718
 (.call f_impl_some [a (v (L (L I)) 6),a (v (L B) 718)] 782
 (.call f_impl_not [a (v (L B) 782)] 846
 (.jump 0 [a (v (L B) 0),a (v (L (L I)) 1),a (v (L T4) 2),a (v I 3),a (v I 4),a (v I 5),a (v (L B) 8),a (v (L B) 846),a (v (L (L I)) 6),a (v B 7),a (v (L (L B)) 9)]))))
 (.jump 0 [a (v (L B) 0),a (v (L (L I)) 1),a (v (L T4) 2),a (v I 3),a (v I 4),a (v I 5),a (v (L B) 8),a (v (L B) 398),a (v (L (L I)) 6),a (v B 7),a (v (L (L B)) 9)]))
 (.guard (le (c 0) (ln (v (L B) 6)))
 (.guard (le (ln (v (L B) 6)) (c 549755813888))
 (.loop [a (v (L B) 6),a (ln (v (L B) 6)),a (c 0),a (v (L B) 0),a (v (L (L I)) 1),a (v (L T4) 2),a (v I 3),a (v I 4),a (v I 5),a (v (L B) 7),a (rep (ln (v (L B) 6)) (z B)),a (v (L (L I)) 8),a (v B 9),a (v (L B) 6),a (v (L (L B)) 10)]
 (.ite (lt (v I 2) (v I 1))
 (.join
 (.guard (le (c 0) (v I 2))
 (.guard (lt (v I 2) (ln (v (L B) 0)))
 (.guard (le (c 0) (v I 2))
 (.guard (lt (v I 2) (ln (v (L B) 9)))
 (.ite (ix (v (L B) 0) (v I 2))
 (.guard (le (c 0) (v I 2))
 (.guard (lt (v I 2) (ln (v (L B) 10)))
 (.jump 0 [a (v (L B) 0),a (v I 1),a (v I 2),a (v (L B) 3),a (v (L (L I)) 4),a (v (L T4) 5),a (v I 6),a (v I 7),a (v I 8),a (v (L B) 9),a (st (v (L B) 10) (v I 2) (ix (v (L B) 9) (v I 2))),a (v (L (L I)) 11),a (v B 12),a (v (L B) 13),a (v (L (L B)) 14)])))
 (.guard (le (c 0) (v I 2))
 (.guard (lt (v I 2) (ln (v (L B) 10)))
 (.jump 0 [a (v (L B) 0),a (v I 1),a (v I 2),a (v (L B) 3),a (v (L (L I)) 4),a (v (L T4) 5),a (v I 6),a (v I 7),a (v I 8),a (v (L B) 9),a (st (v (L B) 10) (v I 2) (k false)),a (v (L (L I)) 11),a (v B 12),a (v (L B) 13),a (v (L (L B)) 14)]))))))))
 (.jump 0 [a (v (L B) 0),a (v I 1),a (add (v I 2) (c 1)),a (v (L B) 3),a (v (L (L I)) 4),a (v (L T4) 5),a (v I 6),a (v I 7),a (v I 8),a (v (L B) 9),a (v (L B) 10),a (v (L (L I)) 11),a (v B 12),a (v (L B) 13),a (v (L (L B)) 14)]))
 (.call f_slices_Equal_Sbool_bool [a (v (L B) 10),a (v (L B) 3)] 853
 (.ite (v B 853)
 (.guard (le (c 0) (v I 8))
 (.guard (lt (v I 8) (ln (v (L (L B)) 14)))
 (.jump 2 [a (v (L (L I)) 4),a (v (L T4) 5),a (v I 6),a (v I 7),a (v (L (L I)) 11),a (st (v (L (L B)) 14) (v I 8) (v (L B) 3))])))
 (.jump 1 [a (v (L B) 10),a (v (L (L I)) 4),a (v (L T4) 5),a (v I 6),a (v I 7),a (v I 8),a (v (L (L I)) 11),a (v B 12),a (v (L B) 13),a (v (L (L B)) 14)]))))))))))))))))))))))
 (.jump 0 [a (v (L (L I)) 0),a (v (L T4) 1),a (v I 2),a (add (v I 3) (c 1)),a (v (L (L I)) 4),a (v (L (L B)) 5)]))
 (.ret [a (v (L (L B)) 5)]))))
def tr_impl_listOf:Tr:=.loop [a (v (L B) 0),a (ln (v (L B) 0)),a (c 0),a (nl I)]
 (.ite (lt (v I 2) (v I 1))
 (.join
 (.guard (le (c 0) (v I 2))
 (.guard (lt (v I 2) (ln (v (L B) 0)))
 (.ite (ix (v (L B) 0) (v I 2))
 (.guard (le (ln (v (L I) 3)) (c 549755813888))
 (.guard (le (ln (one (v I 2))) (c 549755813888))
 (.jump 0 [a (v (L B) 0),a (v I 1),a (v I 2),a (app (v (L I) 3) (one (v I 2)))])))
 (.jump 0 [a (v (L B) 0),a (v I 1),a (v I 2),a (v (L I) 3)]))))
 (.jump 0 [a (v (L B) 0),a (v I 1),a (add (v I 2) (c 1)),a (v (L I) 3)]))
 (.call f_impl_clone_int [a (v (L I) 3)] 133
 (.ret [a (v (L I) 133)])))
def tr_impl_TreeSets:Tr:=.call f_impl_askTree [a (v (L V3) 0),a (v (L TR) 1),a (v (L (L T4)) 2),a (v (L T4) 3)] 100320
 (.ite (nt (v B 100320))
 (.ret [a (.nil true (L I))])
 (.call f_impl_followers [a (v (L V3) 0),a (v (L TR) 1)] 100832
 (.call f_impl_lettersAll [a (v (L V3) 0),a (v (L TR) 1),a (v (L (L T4)) 2)] 100896
 (.call f_impl_treeRows [a (v (L T4) 3),a (v (L (L I)) 100832),a (v (L (L I)) 100896)] 100960
 (.loop [a (ln (v (L (L B)) 100960)),a (c 0),a (nl (L I)),a (v (L (L B)) 100960)]
 (.ite (lt (v I 1) (v I 0))
 (.guard (le (c 0) (v I 1))
 (.guard (lt (v I 1) (ln (v (L (L B)) 3)))
 (.call f_impl_listOf [a (ix (v (L (L B)) 3) (v I 1))] 390
 (.guard (le (ln (v (L (L I)) 2)) (c 549755813888))
 (.guard (le (ln (one (v (L I) 390))) (c 549755813888))
 (.jump 0 [a (v I 0),a (add (v I 1) (c 1)),a (app (v (L (L I)) 2) (one (v (L I) 390))),a (v (L (L B)) 3)]))))))
 (.call f_impl_clone_Sint [a (v (L (L I)) 2)] 134
 (.guard (nt (emp (v (L (L I)) 134)))
 (.ret [a (re true (v (L (L I)) 134))])))))))))
def tr_spec_l40Open:Tr:=.join
 (.ite (gt (ln (v (L U) 0)) (c 2000))
 (.guard (le (c 2000) (ln (re false (v (L U) 0))))
 (.jump 0 [a (take (re false (v (L U) 0)) (c 2000))]))
 (.jump 0 [a (v (L U) 0)]))
 (.ret [a (pr (v (L U) 0) (c 0))])
def tr_spec_l40Rd_pick:Tr:=.ite (lt (v I 1) (c 1))
 (.ret [a (c 0),a (pr (f (v (P (L U) I) 0)) (add (s (v (P (L U) I) 0)) (c 1)))])
 (.ite (eq (ln (f (v (P (L U) I) 0))) (c 0))
 (.ret [a (c 0),a (pr (f (v (P (L U) I) 0)) (add (s (v (P (L U) I) 0)) (c 1)))])
 (.ite (lt (sub (add (s (v (P (L U) I) 0)) (c 1)) (c 1)) (ln (f (v (P (L U) I) 0))))
 (.guard (le (c 0) (sub (add (s (v (P (L U) I) 0)) (c 1)) (c 1)))
 (.guard (lt (sub (add (s (v (P (L U) I) 0)) (c 1)) (c 1)) (ln (f (v (P (L U) I) 0))))
 (.guard (ne (v I 1) (c 0))
 (.ret [a (rem (.o1 (.conv .u8 .i64) (ix (f (v (P (L U) I) 0)) (sub (add (s (v (P (L U) I) 0)) (c 1)) (c 1)))) (v I 1)),a (pr (f (v (P (L U) I) 0)) (add (s (v (P (L U) I) 0)) (c 1)))]))))
 (.guard (ne (ln (f (v (P (L U) I) 0))) (c 0))
 (.guard (le (c 0) (rem (sub (add (s (v (P (L U) I) 0)) (c 1)) (c 1)) (ln (f (v (P (L U) I) 0)))))
 (.guard (lt (rem (sub (add (s (v (P (L U) I) 0)) (c 1)) (c 1)) (ln (f (v (P (L U) I) 0)))) (ln (f (v (P (L U) I) 0))))
 (.guard (ne (ln (f (v (P (L U) I) 0))) (c 0))
 (.guard (le (c 0) (rem (add (mul (sub (add (s (v (P (L U) I) 0)) (c 1)) (c 1)) (c 7)) (c 3)) (ln (f (v (P (L U) I) 0)))))
 (.guard (lt (rem (add (mul (sub (add (s (v (P (L U) I) 0)) (c 1)) (c 1)) (c 7)) (c 3)) (ln (f (v (P (L U) I) 0)))) (ln (f (v (P (L U) I) 0))))
 (.guard (ne (ln (f (v (P (L U) I) 0))) (c 0))
 (.guard (ne (v I 1) (c 0))
 (.ret [a (rem (ar .xor (add (add (add (mul (.o1 (.conv .u8 .i64) (ix (f (v (P (L U) I) 0)) (rem (sub (add (s (v (P (L U) I) 0)) (c 1)) (c 1)) (ln (f (v (P (L U) I) 0)))))) (c 131)) (mul (.o1 (.conv .u8 .i64) (ix (f (v (P (L U) I) 0)) (rem (add (mul (sub (add (s (v (P (L U) I) 0)) (c 1)) (c 1)) (c 7)) (c 3)) (ln (f (v (P (L U) I) 0)))))) (c 1117))) (mul (sub (add (s (v (P (L U) I) 0)) (c 1)) (c 1)) (c 29))) (mul (quo (sub (add (s (v (P (L U) I) 0)) (c 1)) (c 1)) (ln (f (v (P (L U) I) 0)))) (c 53))) (quo (add (add (add (mul (.o1 (.conv .u8 .i64) (ix (f (v (P (L U) I) 0)) (rem (sub (add (s (v (P (L U) I) 0)) (c 1)) (c 1)) (ln (f (v (P (L U) I) 0)))))) (c 131)) (mul (.o1 (.conv .u8 .i64) (ix (f (v (P (L U) I) 0)) (rem (add (mul (sub (add (s (v (P (L U) I) 0)) (c 1)) (c 1)) (c 7)) (c 3)) (ln (f (v (P (L U) I) 0)))))) (c 1117))) (mul (sub (add (s (v (P (L U) I) 0)) (c 1)) (c 1)) (c 29))) (mul (quo (sub (add (s (v (P (L U) I) 0)) (c 1)) (c 1)) (ln (f (v (P (L U) I) 0)))) (c 53))) (c 64))) (v I 1)),a (pr (f (v (P (L U) I) 0)) (add (s (v (P (L U) I) 0)) (c 1)))])))))))))))
def tr_spec_l40Rd_num:Tr:=.call f_spec_l40Rd_pick [a (pr (f (v (P (L U) I) 0)) (s (v (P (L U) I) 0))),a (ln (v (L I) 1))] 100320
 (.guard (le (c 0) (v I 100320))
 (.guard (lt (v I 100320) (ln (v (L I) 1)))
 (.ret [a (ix (v (L I) 1) (v I 100320)),a (pr (f (v (P (L U) I) 0)) (s (v (P (L U) I) 100321)))])))
def tr_spec_l2VarOf:Tr:=.ret [a (c 1),a (v I 0),a (c 0),a (c 0)]
def tr_spec_l2Const:Tr:=.ret [a (c 0),a (v I 0),a (c 0),a (c 0)]
def tr_spec_l2Cond:Tr:=.call f_spec_l40Rd_pick [a (pr (f (v (P (L U) I) 0)) (s (v (P (L U) I) 0))),a (add (sub (v I 2) (v I 1)) (c 1))] 100704
 (.join
 (.jump 0 [a (v I 4),a (add (v I 1) (v I 100704)),a (f (v (P (L U) I) 0)),a (s (v (P (L U) I) 100705))])
 (.call f_spec_l40Rd_num [a (pr (v (L U) 2) (v I 3)),a (app (one (c 6)) (app (one (c 5)) (app (one (c 5)) (one (c 6)))))] 133
 (.call f_spec_l2VarOf [a (v I 0)] 325
 (.call f_spec_l2Const [a (v I 1)] 453
 (.join
 (.call f_spec_l40Rd_pick [a (pr (v (L U) 2) (s (v (P (L U) I) 134))),a (c 3)] 837
 (.ite (eq (v I 837) (c 0))
 (.guard (le (ln (app (one (pr (v I 325) (pr (v I 326) (pr (v I 327) (v I 328))))) (app (one (pr (v I 453) (pr (v I 454) (pr (v I 455) (v I 456))))) (one (pr (v I 133) (pr (c 0) (pr (c 0) (c 1)))))))) (c 549755813888))
 (.guard (le (ln (one (pr (c 7) (pr (c 0) (pr (c 2) (c 2)))))) (c 549755813888))
 (.jump 0 [a (v (L U) 2),a (s (v (P (L U) I) 838)),a (app (app (one (pr (v I 325) (pr (v I 326) (pr (v I 327) (v I 328))))) (app (one (pr (v I 453) (pr (v I 454) (pr (v I 455) (v I 456))))) (one (pr (v I 133) (pr (c 0) (pr (c 0) (c 1))))))) (one (pr (c 7) (pr (c 0) (pr (c 2) (c 2))))))])))
 (.jump 0 [a (v (L U) 2),a (s (v (P (L U) I) 838)),a (app (one (pr (v I 325) (pr (v I 326) (pr (v I 327) (v I 328))))) (app (one (pr (v I 453) (pr (v I 454) (pr (v I 455) (v I 456))))) (one (pr (v I 133) (pr (c 0) (pr (c 0) (c 1)))))))])))
 (.ret [a (v (L T4) 2),a (pr (v (L U) 0) (v I 1))]))))))
def tr_spec_TermsValid:Tr:=.call f_spec_KindsOf [a (v (L T4) 0),a (v I 1)] 100192
 (.ret [a (gt (ln (v (L I) 100192)) (c 0))])
def tr_spec_l1Moved:Tr:=.ite (ge (v I 0) (c 2))
 (.ret [a (v I 0),a (c 0),a (add (v I 2) (v I 4)),a (add (v I 3) (v I 4))])
 (.ret [a (v I 0),a (v I 1),a (v I 2),a (v I 3)])
def tr_spec_Joined:Tr:=.call f_spec_TermsValid [a (v (L T4) 1),a (v I 3)] 100192
 (.ite (nt (v B 100192))
 (.ret [a (nl T4)])
 (.call f_spec_TermsValid [a (v (L T4) 2),a (v I 3)] 100512
 (.ite (nt (v B 100512))
 (.ret [a (nl T4)])
 (.loop [a (v I 0),a (v (L T4) 1),a (v (L T4) 2),a (v I 3),a (c 0),a (nl T4)]
 (.ite (lt (v I 4) (ln (v (L T4) 1)))
 (.guard (le (c 0) (v I 4))
 (.guard (lt (v I 4) (ln (v (L T4) 1)))
 (.guard (le (ln (v (L T4) 5)) (c 549755813888))
 (.guard (le (ln (one (pr (f (ix (v (L T4) 1) (v I 4))) (pr (f (s (ix (v (L T4) 1) (v I 4)))) (pr (f (s (s (ix (v (L T4) 1) (v I 4))))) (s (s (s (ix (v (L T4) 1) (v I 4)))))))))) (c 549755813888))
 (.jump 0 [a (v I 0),a (v (L T4) 1),a (v (L T4) 2),a (v I 3),a (add (v I 4) (c 1)),a (app (v (L T4) 5) (one (pr (f (ix (v (L T4) 1) (v I 4))) (pr (f (s (ix (v (L T4) 1) (v I 4)))) (pr (f (s (s (ix (v (L T4) 1) (v I 4))))) (s (s (s (ix (v (L T4) 1) (v I 4))))))))))])))))
 (.join
 (.loop [a (v I 0),a (v (L T4) 1),a (v (L T4) 2),a (v I 3),a (c 0),a (v (L T4) 5)]
 (.ite (lt (v I 4) (ln (v (L T4) 2)))
 (.call f_spec_l1One [a (v I 0)] 391
 (.ite (nt (v B 391))
 (.guard (le (c 0) (v I 4))
 (.guard (lt (v I 4) (ln (v (L T4) 2)))
 (.call f_spec_l1Moved [a (f (ix (v (L T4) 2) (v I 4))),a (f (s (ix (v (L T4) 2) (v I 4)))),a (f (s (s (ix (v (L T4) 2) (v I 4))))),a (s (s (s (ix (v (L T4) 2) (v I 4))))),a (ln (v (L T4) 1))] 1031
 (.guard (le (ln (v (L T4) 5)) (c 549755813888))
 (.guard (le (ln (one (pr (v I 1031) (pr (v I 1032) (pr (v I 1033) (v I 1034)))))) (c 549755813888))
 (.jump 0 [a (v I 0),a (v (L T4) 1),a (v (L T4) 2),a (v I 3),a (add (v I 4) (c 1)),a (app (v (L T4) 5) (one (pr (v I 1031) (pr (v I 1032) (pr (v I 1033) (v I 1034))))))]))))))
 (.jump 1 [a (v I 0),a (v (L T4) 1),a (v I 3),a (v (L T4) 5)])))
 (.jump 1 [a (v I 0),a (v (L T4) 1),a (v I 3),a (v (L T4) 5)])))
 (.guard (le (ln (v (L T4) 3)) (c 549755813888))
 (.guard (le (ln (one (pr (v I 0) (pr (c 0) (pr (sub (ln (v (L T4) 1)) (c 1)) (sub (ln (v (L T4) 3)) (c 1))))))) (c 549755813888))
 (.ite (lt (v I 0) (c 2))
 (.ret [a (nl T4)])
 (.call f_spec_TermsValid [a (app (v (L T4) 3) (one (pr (v I 0) (pr (c 0) (pr (sub (ln (v (L T4) 1)) (c 1)) (sub (ln (v (L T4) 3)) (c 1))))))),a (v I 2)] 1093
 (.ite (nt (v B 1093))
 (.ret [a (nl T4)])
 (.ret [a (app (v (L T4) 3) (one (pr (v I 0) (pr (c 0) (pr (sub (ln (v (L T4) 1)) (c 1)) (sub (ln (v (L T4) 3)) (c 1)))))))]))))))))))))
def tr_spec_l2When:Tr:=.call f_spec_l40Rd_pick [a (pr (f (v (P (L U) I) 0)) (s (v (P (L U) I) 0))),a (ln (v (L V3) 1))] 100256
 (.guard (le (c 0) (v I 100256))
 (.guard (lt (v I 100256) (ln (v (L V3) 1)))
 (.call f_spec_l2Cond [a (pr (f (v (P (L U) I) 0)) (s (v (P (L U) I) 100257))),a (f (ix (v (L V3) 1) (v I 100256))),a (f (s (ix (v (L V3) 1) (v I 100256)))),a (s (s (ix (v (L V3) 1) (v I 100256)))),a (v I 100256)] 100768
 (.join
 (.call f_spec_l40Rd_pick [a (pr (f (v (P (L U) I) 0)) (s (v (P (L U) I) 100769))),a (c 2)] 100960
 (.ite (eq (v I 100960) (c 0))
 (.call f_spec_l40Rd_pick [a (pr (f (v (P (L U) I) 0)) (s (v (P (L U) I) 100961))),a (ln (v (L V3) 1))] 101280
 (.guard (le (c 0) (v I 101280))
 (.guard (lt (v I 101280) (ln (v (L V3) 1)))
 (.call f_spec_l40Rd_num [a (pr (f (v (P (L U) I) 0)) (s (v (P (L U) I) 101281))),a (app (one (c 8)) (app (one (c 9)) (one (c 8))))] 102048
 (.call f_spec_l2Cond [a (pr (f (v (P (L U) I) 0)) (s (v (P (L U) I) 102049))),a (f (ix (v (L V3) 1) (v I 101280))),a (f (s (ix (v (L V3) 1) (v I 101280)))),a (s (s (ix (v (L V3) 1) (v I 101280)))),a (v I 101280)] 102176
 (.call f_spec_Joined [a (v I 102048),a (v (L T4) 100768),a (v (L T4) 102176),a (ln (v (L V3) 1))] 102240
 (.join
 (.jump 0 [a (f (v (P (L U) I) 0)),a (s (v (P (L U) I) 102177)),a (v (L T4) 102240)])
 (.jump 0 [a (v (L U) 0),a (v I 1),a (v (L T4) 2)]))))))))
 (.jump 0 [a (f (v (P (L U) I) 0)),a (s (v (P (L U) I) 100961)),a (v (L T4) 100768)])))
 (.ret [a (v (L T4) 2),a (pr (v (L U) 0) (v I 1))])))))
def tr_spec_l1Number:Tr:=.call f_spec_l40Rd_pick [a (pr (f (v (P (L U) I) 0)) (s (v (P (L U) I) 0))),a (c 4)] 100192
 (.call f_spec_l40Rd_pick [a (pr (f (v (P (L U) I) 0)) (s (v (P (L U) I) 100193))),a (c 4)] 100320
 (.call f_spec_l40Rd_pick [a (pr (f (v (P (L U) I) 0)) (s (v (P (L U) I) 100321))),a (c 7)] 100448
 (.call f_spec_l40Rd_pick [a (pr (f (v (P (L U) I) 0)) (s (v (P (L U) I) 100449))),a (c 200)] 100640
 (.call f_spec_l40Rd_pick [a (pr (f (v (P (L U) I) 0)) (s (v (P (L U) I) 100641))),a (c 4)] 100896
 (.guard (le (c 0) (v I 100896))
 (.guard (lt (v I 100896) (ln (app (one (c 9999)) (app (one (c (-9999))) (app (one (c 5000)) (one (c 100)))))))
 (.call f_spec_l40Rd_num [a (pr (f (v (P (L U) I) 0)) (s (v (P (L U) I) 100897))),a (app (one (v I 100192)) (app (one (v I 100320)) (app (one (sub (v I 100448) (c 3))) (app (one (c 1)) (app (one (c 0)) (app (one (sub (v I 100640) (c 100))) (one (ix (app (one (c 9999)) (app (one (c (-9999))) (app (one (c 5000)) (one (c 100))))) (v I 100896)))))))))] 101152
 (.ret [a (v I 101152),a (pr (f (v (P (L U) I) 0)) (s (v (P (L U) I) 101153)))]))))))))
end Go.Proofs.YtifkpliahhodoaaGreat
namespace Go.Proofs.YtifkpliahhodoaaGreat
open Go Go.Sm Go.Sm.Q
def tr_spec_l1Pick:Tr:=.call f_spec_l40Rd_pick [a (pr (f (v (P (L U) I) 0)) (s (v (P (L U) I) 0))),a (ln (v (L I) 1))] 100256
 (.loop [a (v (L I) 1),a (v I 2),a (v I 100256),a (c 0),a (f (v (P (L U) I) 0)),a (s (v (P (L U) I) 100257))]
 (.ite (lt (v I 3) (ln (v (L I) 0)))
 (.guard (ne (ln (v (L I) 0)) (c 0))
 (.guard (le (c 0) (rem (add (v I 2) (v I 3)) (ln (v (L I) 0))))
 (.guard (lt (rem (add (v I 2) (v I 3)) (ln (v (L I) 0))) (ln (v (L I) 0)))
 (.ite (eq (ix (v (L I) 0) (rem (add (v I 2) (v I 3)) (ln (v (L I) 0)))) (v I 1))
 (.ret [a (rem (add (v I 2) (v I 3)) (ln (v (L I) 0))),a (pr (v (L U) 4) (v I 5))])
 (.jump 0 [a (v (L I) 0),a (v I 1),a (v I 2),a (add (v I 3) (c 1)),a (v (L U) 4),a (v I 5)])))))
 (.ret [a (c (-1)),a (pr (v (L U) 4) (v I 5))])))
def tr_spec_l1Terms:Tr:=.call f_spec_l40Rd_pick [a (pr (f (v (P (L U) I) 0)) (s (v (P (L U) I) 0))),a (v I 3)] 100448
 (.loop [a (v I 1),a (v I 2),a (add (c 2) (v I 100448)),a (f (v (P (L U) I) 0)),a (s (v (P (L U) I) 100449)),a (nl T4),a (nl I)]
 (.ite (gt (v I 2) (c 0))
 (.join
 (.call f_spec_l40Rd_num [a (pr (v (L U) 3) (v I 4)),a (app (one (c 0)) (app (one (c 1)) (app (one (c 1)) (app (one (c 2)) (app (one (c 3)) (app (one (c 4)) (app (one (c 5)) (app (one (c 6)) (app (one (c 5)) (app (one (c 6)) (app (one (c 7)) (app (one (c 8)) (one (c 9))))))))))))))] 266
 (.join
 (.ite (eq (ln (v (L T4) 5)) (c 0))
 (.call f_spec_l1Number [a (pr (v (L U) 3) (s (v (P (L U) I) 267)))] 1162
 (.ite (gt (v I 0) (c 0))
 (.ite (ne (v I 266) (c 0))
 (.call f_spec_l40Rd_pick [a (pr (v (L U) 3) (s (v (P (L U) I) 1163))),a (v I 0)] 1866
 (.jump 0 [a (v I 0),a (v I 1),a (v I 2),a (v (L U) 3),a (s (v (P (L U) I) 1867)),a (v (L T4) 5),a (v (L I) 6),a (c 1),a (v I 1866),a (c 0),a (c 0)]))
 (.jump 0 [a (v I 0),a (v I 1),a (v I 2),a (v (L U) 3),a (s (v (P (L U) I) 1163)),a (v (L T4) 5),a (v (L I) 6),a (c 0),a (v I 1162),a (c 0),a (c 0)]))
 (.jump 0 [a (v I 0),a (v I 1),a (v I 2),a (v (L U) 3),a (s (v (P (L U) I) 1163)),a (v (L T4) 5),a (v (L I) 6),a (c 0),a (v I 1162),a (c 0),a (c 0)])))
 (.ite (lt (v I 266) (c 2))
 (.call f_spec_l1Number [a (pr (v (L U) 3) (s (v (P (L U) I) 267)))] 1162
 (.ite (gt (v I 0) (c 0))
 (.ite (ne (v I 266) (c 0))
 (.call f_spec_l40Rd_pick [a (pr (v (L U) 3) (s (v (P (L U) I) 1163))),a (v I 0)] 1866
 (.jump 0 [a (v I 0),a (v I 1),a (v I 2),a (v (L U) 3),a (s (v (P (L U) I) 1867)),a (v (L T4) 5),a (v (L I) 6),a (c 1),a (v I 1866),a (c 0),a (c 0)]))
 (.jump 0 [a (v I 0),a (v I 1),a (v I 2),a (v (L U) 3),a (s (v (P (L U) I) 1163)),a (v (L T4) 5),a (v (L I) 6),a (c 0),a (v I 1162),a (c 0),a (c 0)]))
 (.jump 0 [a (v I 0),a (v I 1),a (v I 2),a (v (L U) 3),a (s (v (P (L U) I) 1163)),a (v (L T4) 5),a (v (L I) 6),a (c 0),a (v I 1162),a (c 0),a (c 0)])))
 (.join
 (.ite (ge (v I 266) (c 7))
 (.jump 0 [a (v I 0),a (v I 1),a (v I 2),a (v I 266),a (c 2),a (v (L U) 3),a (s (v (P (L U) I) 267)),a (v (L T4) 5),a (v (L I) 6),a (v I 266),a (c 0),a (c 0),a (c 0)])
 (.jump 0 [a (v I 0),a (v I 1),a (v I 2),a (v I 266),a (c 1),a (v (L U) 3),a (s (v (P (L U) I) 267)),a (v (L T4) 5),a (v (L I) 6),a (v I 266),a (c 0),a (c 0),a (c 0)]))
 (.call f_spec_l1Pick [a (pr (v (L U) 5) (v I 6)),a (v (L I) 8),a (v I 4)] 209
 (.call f_spec_l1Pick [a (pr (v (L U) 5) (s (v (P (L U) I) 210))),a (v (L I) 8),a (v I 4)] 593
 (.call f_spec_l1One [a (v I 3)] 849
 (.ite (v B 849)
 (.jump 0 [a (v I 0),a (v I 1),a (v I 2),a (v (L U) 5),a (s (v (P (L U) I) 594)),a (v (L T4) 7),a (v (L I) 8),a (v I 9),a (v I 10),a (v I 209),a (v I 209)])
 (.jump 0 [a (v I 0),a (v I 1),a (v I 2),a (v (L U) 5),a (s (v (P (L U) I) 594)),a (v (L T4) 7),a (v (L I) 8),a (v I 9),a (v I 10),a (v I 209),a (v I 593)]))))))))
 (.call f_spec_l1Kind [a (v I 7),a (v I 8),a (v I 9),a (v I 10),a (v (L I) 6),a (v I 0)] 207
 (.ite (ne (v I 207) (c 0))
 (.guard (le (ln (v (L T4) 5)) (c 549755813888))
 (.guard (le (ln (one (pr (v I 7) (pr (v I 8) (pr (v I 9) (v I 10)))))) (c 549755813888))
 (.guard (le (ln (v (L I) 6)) (c 549755813888))
 (.guard (le (ln (one (v I 207))) (c 549755813888))
 (.jump 0 [a (v I 0),a (v I 1),a (v I 2),a (v (L U) 3),a (v I 4),a (app (v (L T4) 5) (one (pr (v I 7) (pr (v I 8) (pr (v I 9) (v I 10)))))),a (app (v (L I) 6) (one (v I 207)))])))))
 (.jump 0 [a (v I 0),a (v I 1),a (v I 2),a (v (L U) 3),a (v I 4),a (v (L T4) 5),a (v (L I) 6)])))))
 (.jump 0 [a (v I 0),a (v I 1),a (sub (v I 2) (c 1)),a (v (L U) 3),a (v I 4),a (v (L T4) 5),a (v (L I) 6)]))
 (.join
 (.ite (eq (ln (v (L T4) 5)) (c 0))
 (.guard (le (ln (v (L T4) 5)) (c 549755813888))
 (.guard (le (ln (one (pr (c 0) (pr (c 1) (pr (c 0) (c 0)))))) (c 549755813888))
 (.guard (le (ln (v (L I) 6)) (c 549755813888))
 (.guard (le (ln (one (c 1))) (c 549755813888))
 (.jump 0 [a (v I 1),a (v (L U) 3),a (v I 4),a (app (v (L T4) 5) (one (pr (c 0) (pr (c 1) (pr (c 0) (c 0)))))),a (app (v (L I) 6) (one (c 1)))])))))
 (.jump 0 [a (v I 1),a (v (L U) 3),a (v I 4),a (v (L T4) 5),a (v (L I) 6)]))
 (.join
 (.ite (eq (v I 0) (c 2))
 (.guard (le (c 0) (sub (ln (v (L T4) 3)) (c 1)))
 (.guard (lt (sub (ln (v (L T4) 3)) (c 1)) (ln (v (L I) 4)))
 (.ite (ne (ix (v (L I) 4) (sub (ln (v (L T4) 3)) (c 1))) (v I 0))
 (.call f_spec_l40Rd_num [a (pr (v (L U) 1) (v I 2)),a (app (one (c 5)) (one (c 6)))] 1096
 (.call f_spec_l1Pick [a (pr (v (L U) 1) (s (v (P (L U) I) 1097))),a (v (L I) 4),a (c 1)] 1352
 (.guard (le (ln (v (L T4) 3)) (c 549755813888))
 (.guard (le (ln (one (pr (v I 1096) (pr (c 0) (pr (sub (ln (v (L T4) 3)) (c 1)) (v I 1352)))))) (c 549755813888))
 (.jump 0 [a (v (L U) 1),a (s (v (P (L U) I) 1353)),a (app (v (L T4) 3) (one (pr (v I 1096) (pr (c 0) (pr (sub (ln (v (L T4) 3)) (c 1)) (v I 1352))))))])))))
 (.ite (eq (v I 0) (c 1))
 (.guard (le (c 0) (sub (ln (v (L T4) 3)) (c 1)))
 (.guard (lt (sub (ln (v (L T4) 3)) (c 1)) (ln (v (L I) 4)))
 (.ite (ne (ix (v (L I) 4) (sub (ln (v (L T4) 3)) (c 1))) (v I 0))
 (.call f_spec_l1Pick [a (pr (v (L U) 1) (v I 2)),a (v (L I) 4),a (c 1)] 1672
 (.call f_spec_l40Rd_num [a (pr (v (L U) 1) (s (v (P (L U) I) 1673))),a (app (one (c 2)) (one (c 3)))] 1992
 (.call f_spec_l1Pick [a (pr (v (L U) 1) (s (v (P (L U) I) 1993))),a (v (L I) 4),a (c 1)] 2248
 (.guard (le (ln (v (L T4) 3)) (c 549755813888))
 (.guard (le (ln (one (pr (v I 1992) (pr (c 0) (pr (v I 1672) (v I 2248)))))) (c 549755813888))
 (.jump 0 [a (v (L U) 1),a (s (v (P (L U) I) 2249)),a (app (v (L T4) 3) (one (pr (v I 1992) (pr (c 0) (pr (v I 1672) (v I 2248))))))]))))))
 (.jump 0 [a (v (L U) 1),a (v I 2),a (v (L T4) 3)]))))
 (.jump 0 [a (v (L U) 1),a (v I 2),a (v (L T4) 3)])))))
 (.ite (eq (v I 0) (c 1))
 (.guard (le (c 0) (sub (ln (v (L T4) 3)) (c 1)))
 (.guard (lt (sub (ln (v (L T4) 3)) (c 1)) (ln (v (L I) 4)))
 (.ite (ne (ix (v (L I) 4) (sub (ln (v (L T4) 3)) (c 1))) (v I 0))
 (.call f_spec_l1Pick [a (pr (v (L U) 1) (v I 2)),a (v (L I) 4),a (c 1)] 1672
 (.call f_spec_l40Rd_num [a (pr (v (L U) 1) (s (v (P (L U) I) 1673))),a (app (one (c 2)) (one (c 3)))] 1992
 (.call f_spec_l1Pick [a (pr (v (L U) 1) (s (v (P (L U) I) 1993))),a (v (L I) 4),a (c 1)] 2248
 (.guard (le (ln (v (L T4) 3)) (c 549755813888))
 (.guard (le (ln (one (pr (v I 1992) (pr (c 0) (pr (v I 1672) (v I 2248)))))) (c 549755813888))
 (.jump 0 [a (v (L U) 1),a (s (v (P (L U) I) 2249)),a (app (v (L T4) 3) (one (pr (v I 1992) (pr (c 0) (pr (v I 1672) (v I 2248))))))]))))))
 (.jump 0 [a (v (L U) 1),a (v I 2),a (v (L T4) 3)]))))
 (.jump 0 [a (v (L U) 1),a (v I 2),a (v (L T4) 3)])))
 (.ret [a (v (L T4) 2),a (pr (v (L U) 0) (v I 1))])))))
def tr_spec_l2Value:Tr:=.call f_spec_l40Rd_pick [a (pr (f (v (P (L U) I) 0)) (s (v (P (L U) I) 0))),a (c 6)] 100128
 (.ite (lt (v I 100128) (c 3))
 (.call f_spec_l2VarOf [a (v I 2)] 100448
 (.call f_spec_l2Const [a (c 1)] 100512
 (.call f_spec_l40Rd_num [a (pr (f (v (P (L U) I) 0)) (s (v (P (L U) I) 100129))),a (app (one (c 2)) (one (c 3)))] 100704
 (.ret [a (app (one (pr (v I 100448) (pr (v I 100449) (pr (v I 100450) (v I 100451))))) (app (one (pr (v I 100512) (pr (v I 100513) (pr (v I 100514) (v I 100515))))) (one (pr (v I 100704) (pr (c 0) (pr (c 0) (c 1))))))),a (pr (f (v (P (L U) I) 0)) (s (v (P (L U) I) 100705)))]))))
 (.ite (eq (v I 100128) (c 3))
 (.guard (le (c 0) (v I 2))
 (.guard (lt (v I 2) (ln (v (L V3) 1)))
 (.guard (le (c 0) (v I 2))
 (.guard (lt (v I 2) (ln (v (L V3) 1)))
 (.guard (le (c 0) (v I 2))
 (.guard (lt (v I 2) (ln (v (L V3) 1)))
 (.call f_spec_l40Rd_pick [a (pr (f (v (P (L U) I) 0)) (s (v (P (L U) I) 100129))),a (add (sub (f (s (ix (v (L V3) 1) (v I 2)))) (f (ix (v (L V3) 1) (v I 2)))) (c 1))] 101664
 (.call f_spec_l2Const [a (add (f (ix (v (L V3) 1) (v I 2))) (v I 101664))] 101792
 (.join
 (.jump 0 [a (f (v (P (L U) I) 0)),a (s (v (P (L U) I) 101665)),a (one (pr (v I 101792) (pr (v I 101793) (pr (v I 101794) (v I 101795)))))])
 (.ret [a (v (L T4) 2),a (pr (v (L U) 0) (v I 1))]))))))))))
 (.ite (eq (v I 100128) (c 4))
 (.call f_spec_l40Rd_pick [a (pr (f (v (P (L U) I) 0)) (s (v (P (L U) I) 100129))),a (ln (v (L V3) 1))] 100832
 (.call f_spec_l2VarOf [a (v I 100832)] 100896
 (.ret [a (one (pr (v I 100896) (pr (v I 100897) (pr (v I 100898) (v I 100899))))),a (pr (f (v (P (L U) I) 0)) (s (v (P (L U) I) 100833)))])))
 (.call f_spec_l1Terms [a (pr (f (v (P (L U) I) 0)) (s (v (P (L U) I) 100129))),a (ln (v (L V3) 1)),a (c 1),a (c 5)] 100832
 (.ret [a (v (L T4) 100832),a (pr (f (v (P (L U) I) 0)) (s (v (P (L U) I) 100833)))])))))
def tr_spec_l2Rules:Tr:=.loop [a (v (L V3) 1),a (v I 2),a (c 0),a (f (v (P (L U) I) 0)),a (s (v (P (L U) I) 0)),a (nl TR)]
 (.ite (lt (v I 2) (v I 1))
 (.call f_spec_l2When [a (pr (v (L U) 3) (v I 4)),a (v (L V3) 0)] 328
 (.loop [a (v (L V3) 0),a (v I 1),a (v I 2),a (c 0),a (v (L U) 3),a (s (v (P (L U) I) 329)),a (v (L TR) 5),a (v (L T4) 328),a (nl I),a (nl (L T4))]
 (.ite (lt (v I 3) (ln (v (L V3) 0)))
 (.join
 (.call f_spec_l40Rd_pick [a (pr (v (L U) 4) (v I 5)),a (add (ln (v (L V3) 0)) (c 1))] 528
 (.ite (lt (v I 528) (c 1))
 (.guard (le (ln (v (L I) 8)) (c 549755813888))
 (.guard (le (ln (one (v I 3))) (c 549755813888))
 (.call f_spec_l2Value [a (pr (v (L U) 4) (s (v (P (L U) I) 529))),a (v (L V3) 0),a (v I 3)] 2576
 (.guard (le (ln (v (L (L T4)) 9)) (c 549755813888))
 (.guard (le (ln (one (v (L T4) 2576))) (c 549755813888))
 (.join
 (.jump 0 [a (v (L V3) 0),a (v I 1),a (v I 2),a (v I 3),a (v (L U) 4),a (s (v (P (L U) I) 2577)),a (v (L TR) 6),a (v (L T4) 7),a (app (v (L I) 8) (one (v I 3))),a (app (v (L (L T4)) 9) (one (v (L T4) 2576)))])
 (.jump 0 [a (v (L V3) 0),a (v I 1),a (v I 2),a (v I 3),a (v (L U) 4),a (v I 5),a (v (L TR) 6),a (v (L T4) 7),a (v (L I) 8),a (v (L (L T4)) 9)])))))))
 (.ite (eq (v I 3) (sub (ln (v (L V3) 0)) (c 1)))
 (.ite (eq (ln (v (L I) 8)) (c 0))
 (.call f_spec_l40Rd_pick [a (pr (v (L U) 4) (s (v (P (L U) I) 529))),a (c 9)] 1552
 (.ite (gt (v I 1552) (c 0))
 (.guard (le (ln (v (L I) 8)) (c 549755813888))
 (.guard (le (ln (one (v I 3))) (c 549755813888))
 (.call f_spec_l2Value [a (pr (v (L U) 4) (s (v (P (L U) I) 1553))),a (v (L V3) 0),a (v I 3)] 2576
 (.guard (le (ln (v (L (L T4)) 9)) (c 549755813888))
 (.guard (le (ln (one (v (L T4) 2576))) (c 549755813888))
 (.join
 (.jump 0 [a (v (L V3) 0),a (v I 1),a (v I 2),a (v I 3),a (v (L U) 4),a (s (v (P (L U) I) 2577)),a (v (L TR) 6),a (v (L T4) 7),a (app (v (L I) 8) (one (v I 3))),a (app (v (L (L T4)) 9) (one (v (L T4) 2576)))])
 (.jump 0 [a (v (L V3) 0),a (v I 1),a (v I 2),a (v I 3),a (v (L U) 4),a (v I 5),a (v (L TR) 6),a (v (L T4) 7),a (v (L I) 8),a (v (L (L T4)) 9)])))))))
 (.jump 0 [a (v (L V3) 0),a (v I 1),a (v I 2),a (v I 3),a (v (L U) 4),a (s (v (P (L U) I) 1553)),a (v (L TR) 6),a (v (L T4) 7),a (v (L I) 8),a (v (L (L T4)) 9)])))
 (.jump 0 [a (v (L V3) 0),a (v I 1),a (v I 2),a (v I 3),a (v (L U) 4),a (s (v (P (L U) I) 529)),a (v (L TR) 6),a (v (L T4) 7),a (v (L I) 8),a (v (L (L T4)) 9)]))
 (.jump 0 [a (v (L V3) 0),a (v I 1),a (v I 2),a (v I 3),a (v (L U) 4),a (s (v (P (L U) I) 529)),a (v (L TR) 6),a (v (L T4) 7),a (v (L I) 8),a (v (L (L T4)) 9)]))))
 (.jump 0 [a (v (L V3) 0),a (v I 1),a (v I 2),a (add (v I 3) (c 1)),a (v (L U) 4),a (v I 5),a (v (L TR) 6),a (v (L T4) 7),a (v (L I) 8),a (v (L (L T4)) 9)]))
 (.guard (le (ln (v (L TR) 6)) (c 549755813888))
 (.guard (le (ln (one (pr (v (L T4) 7) (pr (v (L I) 8) (v (L (L T4)) 9))))) (c 549755813888))
 (.jump 1 [a (v (L V3) 0),a (v I 1),a (add (v I 2) (c 1)),a (v (L U) 4),a (v I 5),a (app (v (L TR) 6) (one (pr (v (L T4) 7) (pr (v (L I) 8) (v (L (L T4)) 9)))))]))))))
 (.ret [a (v (L TR) 5),a (pr (v (L U) 3) (v I 4))]))
def tr_spec_l2System:Tr:=.call f_spec_l40Rd_pick [a (pr (f (v (P (L U) I) 0)) (s (v (P (L U) I) 0))),a (c 3)] 100384
 (.loop [a (v I 1),a (c 1),a (add (c 1) (v I 100384)),a (f (v (P (L U) I) 0)),a (s (v (P (L U) I) 100385)),a (nl V3)]
 (.ite (gt (v I 2) (c 0))
 (.join
 (.call f_spec_l40Rd_num [a (pr (v (L U) 3) (v I 4)),a (app (one (c 2)) (app (one (c 3)) (app (one (c 2)) (app (one (c 4)) (one (c 5))))))] 266
 (.ite (le (mul (v I 1) (v I 266)) (v I 0))
 (.call f_spec_l40Rd_num [a (pr (v (L U) 3) (s (v (P (L U) I) 267))),a (app (one (c 0)) (app (one (c 0)) (app (one (c 0)) (app (one (c (-1))) (one (c 2))))))] 842
 (.call f_spec_l40Rd_pick [a (pr (v (L U) 3) (s (v (P (L U) I) 843))),a (v I 266)] 1610
 (.guard (le (ln (v (L V3) 5)) (c 549755813888))
 (.guard (le (ln (one (pr (v I 842) (pr (sub (add (v I 842) (v I 266)) (c 1)) (add (v I 842) (v I 1610)))))) (c 549755813888))
 (.join
 (.jump 0 [a (v I 0),a (v I 1),a (v I 2),a (v I 266),a (v (L U) 3),a (s (v (P (L U) I) 1611)),a (app (v (L V3) 5) (one (pr (v I 842) (pr (sub (add (v I 842) (v I 266)) (c 1)) (add (v I 842) (v I 1610))))))])
 (.jump 0 [a (v I 0),a (mul (v I 1) (v I 3)),a (v I 2),a (v (L U) 4),a (v I 5),a (v (L V3) 6)]))))))
 (.jump 0 [a (v I 0),a (v I 1),a (v I 2),a (v (L U) 3),a (s (v (P (L U) I) 267)),a (v (L V3) 5)])))
 (.jump 0 [a (v I 0),a (v I 1),a (sub (v I 2) (c 1)),a (v (L U) 3),a (v I 4),a (v (L V3) 5)]))
 (.join
 (.ite (eq (ln (v (L V3) 5)) (c 0))
 (.guard (le (ln (v (L V3) 5)) (c 549755813888))
 (.guard (le (ln (one (pr (c 0) (pr (c 1) (c 0))))) (c 549755813888))
 (.jump 0 [a (v (L U) 3),a (v I 4),a (app (v (L V3) 5) (one (pr (c 0) (pr (c 1) (c 0)))))])))
 (.jump 0 [a (v (L U) 3),a (v I 4),a (v (L V3) 5)]))
 (.call f_spec_l40Rd_num [a (pr (v (L U) 0) (v I 1)),a (app (one (c 1)) (app (one (c 2)) (app (one (c 3)) (app (one (c 4)) (app (one (c 2)) (app (one (c 3)) (one (c 0))))))))] 327
 (.call f_spec_l2Rules [a (pr (v (L U) 0) (s (v (P (L U) I) 328))),a (v (L V3) 2),a (v I 327)] 391
 (.join
 (.jump 0 [a (v (L U) 0),a (s (v (P (L U) I) 392)),a (v (L V3) 2),a (v (L TR) 391)])
 (.ret [a (v (L V3) 2),a (v (L TR) 3),a (pr (v (L U) 0) (v I 1))])))))))
def tr_spec_l2Any:Tr:=.call f_spec_l2System [a (pr (f (v (P (L U) I) 0)) (s (v (P (L U) I) 0))),a (v I 1)] 100192
 (.join
 (.call f_spec_l40Rd_pick [a (pr (f (v (P (L U) I) 0)) (s (v (P (L U) I) 100194))),a (c 14)] 100448
 (.ite (eq (v I 100448) (c 0))
 (.call f_spec_l40Rd_pick [a (pr (f (v (P (L U) I) 0)) (s (v (P (L U) I) 100449))),a (c 6)] 100640
 (.ite (eq (v I 100640) (c 0))
 (.guard (lt (c 0) (ln (v (L V3) 100192)))
 (.guard (lt (c 0) (ln (v (L V3) 100192)))
 (.jump 0 [a (f (v (P (L U) I) 0)),a (s (v (P (L U) I) 100641)),a (st (v (L V3) 100192) (c 0) (pr (f (ix (v (L V3) 100192) (c 0))) (pr (f (s (ix (v (L V3) 100192) (c 0)))) (add (f (s (ix (v (L V3) 100192) (c 0)))) (c 1))))),a (v (L TR) 100193)])))
 (.ite (eq (v I 100640) (c 1))
 (.guard (lt (c 0) (ln (v (L V3) 100192)))
 (.call f_spec_l40Rd_num [a (pr (f (v (P (L U) I) 0)) (s (v (P (L U) I) 100641))),a (app (one (c (-1))) (app (one (c 20)) (one (c 19))))] 101600
 (.guard (lt (c 0) (ln (v (L V3) 100192)))
 (.join
 (.jump 0 [a (f (v (P (L U) I) 0)),a (s (v (P (L U) I) 101601)),a (st (v (L V3) 100192) (c 0) (pr (f (ix (v (L V3) 100192) (c 0))) (pr (add (f (ix (v (L V3) 100192) (c 0))) (v I 101600)) (s (s (ix (v (L V3) 100192) (c 0))))))),a (v (L TR) 100193)])
 (.jump 0 [a (v (L U) 0),a (v I 1),a (v (L V3) 2),a (v (L TR) 3)])))))
 (.ite (eq (v I 100640) (c 2))
 (.ite (gt (ln (v (L TR) 100193)) (c 0))
 (.call f_spec_l2Const [a (c 1)] 101664
 (.guard (lt (c 0) (ln (v (L TR) 100193)))
 (.jump 0 [a (f (v (P (L U) I) 0)),a (s (v (P (L U) I) 100641)),a (v (L V3) 100192),a (st (v (L TR) 100193) (c 0) (pr (one (pr (v I 101664) (pr (v I 101665) (pr (v I 101666) (v I 101667))))) (s (ix (v (L TR) 100193) (c 0)))))])))
 (.ite (eq (v I 100640) (c 3))
 (.ite (gt (ln (v (L TR) 100193)) (c 0))
 (.guard (lt (c 0) (ln (v (L TR) 100193)))
 (.guard (le (ln (f (s (ix (v (L TR) 100193) (c 0))))) (c 549755813888))
 (.guard (le (ln (one (ln (v (L V3) 100192)))) (c 549755813888))
 (.guard (lt (c 0) (ln (v (L TR) 100193)))
 (.join
 (.jump 0 [a (f (v (P (L U) I) 0)),a (s (v (P (L U) I) 100641)),a (v (L V3) 100192),a (st (v (L TR) 100193) (c 0) (pr (f (ix (v (L TR) 100193) (c 0))) (pr (app (f (s (ix (v (L TR) 100193) (c 0)))) (one (ln (v (L V3) 100192)))) (s (s (ix (v (L TR) 100193) (c 0)))))))])
 (.jump 0 [a (v (L U) 0),a (v I 1),a (v (L V3) 2),a (v (L TR) 3)]))))))
 (.ite (eq (v I 100640) (c 4))
 (.jump 0 [a (f (v (P (L U) I) 0)),a (s (v (P (L U) I) 100641)),a (nl V3),a (v (L TR) 100193)])
 (.ite (gt (ln (v (L TR) 100193)) (c 0))
 (.guard (lt (c 0) (ln (v (L TR) 100193)))
 (.call f_spec_l2Const [a (c 0)] 102880
 (.guard (le (ln (s (s (ix (v (L TR) 100193) (c 0))))) (c 549755813888))
 (.guard (le (ln (one (one (pr (v I 102880) (pr (v I 102881) (pr (v I 102882) (v I 102883))))))) (c 549755813888))
 (.guard (lt (c 0) (ln (v (L TR) 100193)))
 (.join
 (.jump 0 [a (f (v (P (L U) I) 0)),a (s (v (P (L U) I) 100641)),a (v (L V3) 100192),a (st (v (L TR) 100193) (c 0) (pr (f (ix (v (L TR) 100193) (c 0))) (pr (f (s (ix (v (L TR) 100193) (c 0)))) (app (s (s (ix (v (L TR) 100193) (c 0)))) (one (one (pr (v I 102880) (pr (v I 102881) (pr (v I 102882) (v I 102883))))))))))])
 (.jump 0 [a (v (L U) 0),a (v I 1),a (v (L V3) 2),a (v (L TR) 3)])))))))
 (.jump 0 [a (f (v (P (L U) I) 0)),a (s (v (P (L U) I) 100641)),a (v (L V3) 100192),a (v (L TR) 100193)]))))
 (.ite (eq (v I 100640) (c 4))
 (.jump 0 [a (f (v (P (L U) I) 0)),a (s (v (P (L U) I) 100641)),a (nl V3),a (v (L TR) 100193)])
 (.ite (gt (ln (v (L TR) 100193)) (c 0))
 (.guard (lt (c 0) (ln (v (L TR) 100193)))
 (.call f_spec_l2Const [a (c 0)] 102880
 (.guard (le (ln (s (s (ix (v (L TR) 100193) (c 0))))) (c 549755813888))
 (.guard (le (ln (one (one (pr (v I 102880) (pr (v I 102881) (pr (v I 102882) (v I 102883))))))) (c 549755813888))
 (.guard (lt (c 0) (ln (v (L TR) 100193)))
 (.join
 (.jump 0 [a (f (v (P (L U) I) 0)),a (s (v (P (L U) I) 100641)),a (v (L V3) 100192),a (st (v (L TR) 100193) (c 0) (pr (f (ix (v (L TR) 100193) (c 0))) (pr (f (s (ix (v (L TR) 100193) (c 0)))) (app (s (s (ix (v (L TR) 100193) (c 0)))) (one (one (pr (v I 102880) (pr (v I 102881) (pr (v I 102882) (v I 102883))))))))))])
 (.jump 0 [a (v (L U) 0),a (v I 1),a (v (L V3) 2),a (v (L TR) 3)])))))))
 (.jump 0 [a (f (v (P (L U) I) 0)),a (s (v (P (L U) I) 100641)),a (v (L V3) 100192),a (v (L TR) 100193)])))))
 (.ite (eq (v I 100640) (c 3))
 (.ite (gt (ln (v (L TR) 100193)) (c 0))
 (.guard (lt (c 0) (ln (v (L TR) 100193)))
 (.guard (le (ln (f (s (ix (v (L TR) 100193) (c 0))))) (c 549755813888))
 (.guard (le (ln (one (ln (v (L V3) 100192)))) (c 549755813888))
 (.guard (lt (c 0) (ln (v (L TR) 100193)))
 (.join
 (.jump 0 [a (f (v (P (L U) I) 0)),a (s (v (P (L U) I) 100641)),a (v (L V3) 100192),a (st (v (L TR) 100193) (c 0) (pr (f (ix (v (L TR) 100193) (c 0))) (pr (app (f (s (ix (v (L TR) 100193) (c 0)))) (one (ln (v (L V3) 100192)))) (s (s (ix (v (L TR) 100193) (c 0)))))))])
 (.jump 0 [a (v (L U) 0),a (v I 1),a (v (L V3) 2),a (v (L TR) 3)]))))))
 (.ite (eq (v I 100640) (c 4))
 (.jump 0 [a (f (v (P (L U) I) 0)),a (s (v (P (L U) I) 100641)),a (nl V3),a (v (L TR) 100193)])
 (.ite (gt (ln (v (L TR) 100193)) (c 0))
 (.guard (lt (c 0) (ln (v (L TR) 100193)))
 (.call f_spec_l2Const [a (c 0)] 102880
 (.guard (le (ln (s (s (ix (v (L TR) 100193) (c 0))))) (c 549755813888))
 (.guard (le (ln (one (one (pr (v I 102880) (pr (v I 102881) (pr (v I 102882) (v I 102883))))))) (c 549755813888))
 (.guard (lt (c 0) (ln (v (L TR) 100193)))
 (.join
 (.jump 0 [a (f (v (P (L U) I) 0)),a (s (v (P (L U) I) 100641)),a (v (L V3) 100192),a (st (v (L TR) 100193) (c 0) (pr (f (ix (v (L TR) 100193) (c 0))) (pr (f (s (ix (v (L TR) 100193) (c 0)))) (app (s (s (ix (v (L TR) 100193) (c 0)))) (one (one (pr (v I 102880) (pr (v I 102881) (pr (v I 102882) (v I 102883))))))))))])
 (.jump 0 [a (v (L U) 0),a (v I 1),a (v (L V3) 2),a (v (L TR) 3)])))))))
 (.jump 0 [a (f (v (P (L U) I) 0)),a (s (v (P (L U) I) 100641)),a (v (L V3) 100192),a (v (L TR) 100193)]))))
 (.ite (eq (v I 100640) (c 4))
 (.jump 0 [a (f (v (P (L U) I) 0)),a (s (v (P (L U) I) 100641)),a (nl V3),a (v (L TR) 100193)])
 (.ite (gt (ln (v (L TR) 100193)) (c 0))
 (.guard (lt (c 0) (ln (v (L TR) 100193)))
 (.call f_spec_l2Const [a (c 0)] 102880
 (.guard (le (ln (s (s (ix (v (L TR) 100193) (c 0))))) (c 549755813888))
 (.guard (le (ln (one (one (pr (v I 102880) (pr (v I 102881) (pr (v I 102882) (v I 102883))))))) (c 549755813888))
 (.guard (lt (c 0) (ln (v (L TR) 100193)))
 (.join
 (.jump 0 [a (f (v (P (L U) I) 0)),a (s (v (P (L U) I) 100641)),a (v (L V3) 100192),a (st (v (L TR) 100193) (c 0) (pr (f (ix (v (L TR) 100193) (c 0))) (pr (f (s (ix (v (L TR) 100193) (c 0)))) (app (s (s (ix (v (L TR) 100193) (c 0)))) (one (one (pr (v I 102880) (pr (v I 102881) (pr (v I 102882) (v I 102883))))))))))])
 (.jump 0 [a (v (L U) 0),a (v I 1),a (v (L V3) 2),a (v (L TR) 3)])))))))
 (.jump 0 [a (f (v (P (L U) I) 0)),a (s (v (P (L U) I) 100641)),a (v (L V3) 100192),a (v (L TR) 100193)]))))))))
 (.jump 0 [a (f (v (P (L U) I) 0)),a (s (v (P (L U) I) 100449)),a (v (L V3) 100192),a (v (L TR) 100193)])))
 (.ret [a (v (L V3) 2),a (v (L TR) 3),a (pr (v (L U) 0) (v I 1))]))
def tr_spec_l1Any:Tr:=.call f_spec_l40Rd_pick [a (pr (f (v (P (L U) I) 0)) (s (v (P (L U) I) 0))),a (c 3)] 100256
 (.call f_spec_l1Terms [a (pr (f (v (P (L U) I) 0)) (s (v (P (L U) I) 100257))),a (v I 1),a (v I 100256),a (c 12)] 100320
 (.join
 (.call f_spec_l40Rd_pick [a (pr (f (v (P (L U) I) 0)) (s (v (P (L U) I) 100321))),a (c 12)] 100512
 (.ite (eq (v I 100512) (c 0))
 (.call f_spec_l40Rd_pick [a (pr (f (v (P (L U) I) 0)) (s (v (P (L U) I) 100513))),a (ln (v (L T4) 100320))] 100832
 (.guard (le (c 0) (v I 100832))
 (.guard (lt (v I 100832) (ln (v (L T4) 100320)))
 (.call f_spec_l40Rd_pick [a (pr (f (v (P (L U) I) 0)) (s (v (P (L U) I) 100833))),a (c 4)] 101408
 (.join
 (.ite (eq (v I 101408) (c 0))
 (.call f_spec_l40Rd_num [a (pr (f (v (P (L U) I) 0)) (s (v (P (L U) I) 101409))),a (app (one (c (-1))) (app (one (c 10)) (app (one (c 7)) (app (one (c 2)) (app (one (c 0)) (one (c 1)))))))] 101792
 (.jump 0 [a (v I 100832),a (f (v (P (L U) I) 0)),a (s (v (P (L U) I) 101793)),a (v (L T4) 100320),a (v I 101792),a (f (s (ix (v (L T4) 100320) (v I 100832)))),a (f (s (s (ix (v (L T4) 100320) (v I 100832))))),a (s (s (s (ix (v (L T4) 100320) (v I 100832)))))]))
 (.ite (eq (v I 101408) (c 1))
 (.call f_spec_l40Rd_num [a (pr (f (v (P (L U) I) 0)) (s (v (P (L U) I) 101409))),a (app (one (c (-1))) (app (one (v I 1)) (app (one (c 10000)) (one (c 1)))))] 101984
 (.jump 0 [a (v I 100832),a (f (v (P (L U) I) 0)),a (s (v (P (L U) I) 101985)),a (v (L T4) 100320),a (f (ix (v (L T4) 100320) (v I 100832))),a (v I 101984),a (f (s (s (ix (v (L T4) 100320) (v I 100832))))),a (s (s (s (ix (v (L T4) 100320) (v I 100832)))))]))
 (.ite (eq (v I 101408) (c 2))
 (.call f_spec_l40Rd_num [a (pr (f (v (P (L U) I) 0)) (s (v (P (L U) I) 101409))),a (app (one (c (-1))) (app (one (v I 100832)) (app (one (ln (v (L T4) 100320))) (one (c 0)))))] 102240
 (.jump 0 [a (v I 100832),a (f (v (P (L U) I) 0)),a (s (v (P (L U) I) 102241)),a (v (L T4) 100320),a (f (ix (v (L T4) 100320) (v I 100832))),a (f (s (ix (v (L T4) 100320) (v I 100832)))),a (v I 102240),a (s (s (s (ix (v (L T4) 100320) (v I 100832)))))]))
 (.call f_spec_l40Rd_num [a (pr (f (v (P (L U) I) 0)) (s (v (P (L U) I) 101409))),a (app (one (c (-1))) (app (one (v I 100832)) (app (one (ln (v (L T4) 100320))) (one (c 0)))))] 102240
 (.jump 0 [a (v I 100832),a (f (v (P (L U) I) 0)),a (s (v (P (L U) I) 102241)),a (v (L T4) 100320),a (f (ix (v (L T4) 100320) (v I 100832))),a (f (s (ix (v (L T4) 100320) (v I 100832)))),a (f (s (s (ix (v (L T4) 100320) (v I 100832))))),a (v I 102240)])))))
 (.guard (le (c 0) (v I 0))
 (.guard (lt (v I 0) (ln (v (L T4) 3)))
 (.jump 0 [a (v (L U) 1),a (v I 2),a (st (v (L T4) 3) (v I 0) (pr (v I 4) (pr (v I 5) (pr (v I 6) (v I 7)))))]))))))))
 (.jump 0 [a (f (v (P (L U) I) 0)),a (s (v (P (L U) I) 100513)),a (v (L T4) 100320)])))
 (.ret [a (v (L T4) 2),a (pr (v (L U) 0) (v I 1))])))
def tr_spec_l20Asked:Tr:=.join
 (.call f_spec_l40Rd_num [a (pr (f (v (P (L U) I) 0)) (s (v (P (L U) I) 0))),a (app (one (c 1)) (app (one (c 2)) (app (one (c 1)) (app (one (c 2)) (one (c 0))))))] 100384
 (.loop [a (v I 100384),a (f (v (P (L U) I) 0)),a (s (v (P (L U) I) 100385)),a (v (L V3) 1),a (v (L TR) 2),a (nl (L T4))]
 (.ite (gt (v I 0) (c 0))
 (.ite (gt (ln (v (L V3) 3)) (c 0))
 (.join
 (.guard (lt (c 0) (ln (v (L V3) 3)))
 (.call f_spec_l2Var [a (f (ix (v (L V3) 3) (c 0))),a (f (s (ix (v (L V3) 3) (c 0)))),a (s (s (ix (v (L V3) 3) (c 0))))] 777
 (.ite (v B 777)
 (.call f_spec_l40Rd_pick [a (pr (v (L U) 1) (v I 2)),a (c 20)] 969
 (.ite (gt (v I 969) (c 0))
 (.guard (lt (c 0) (ln (v (L V3) 3)))
 (.call f_spec_l2Cond [a (pr (v (L U) 1) (s (v (P (L U) I) 970))),a (f (ix (v (L V3) 3) (c 0))),a (f (s (ix (v (L V3) 3) (c 0)))),a (s (s (ix (v (L V3) 3) (c 0)))),a (c 0)] 1545
 (.guard (le (ln (v (L (L T4)) 5)) (c 549755813888))
 (.guard (le (ln (one (v (L T4) 1545))) (c 549755813888))
 (.jump 0 [a (v I 0),a (v (L U) 1),a (s (v (P (L U) I) 1546)),a (v (L V3) 3),a (v (L TR) 4),a (app (v (L (L T4)) 5) (one (v (L T4) 1545)))])))))
 (.call f_spec_l1Any [a (pr (v (L U) 1) (s (v (P (L U) I) 970))),a (ln (v (L V3) 3))] 1481
 (.guard (le (ln (v (L (L T4)) 5)) (c 549755813888))
 (.guard (le (ln (one (v (L T4) 1481))) (c 549755813888))
 (.jump 0 [a (v I 0),a (v (L U) 1),a (s (v (P (L U) I) 1482)),a (v (L V3) 3),a (v (L TR) 4),a (app (v (L (L T4)) 5) (one (v (L T4) 1481)))]))))))
 (.call f_spec_l1Any [a (pr (v (L U) 1) (v I 2)),a (ln (v (L V3) 3))] 1481
 (.guard (le (ln (v (L (L T4)) 5)) (c 549755813888))
 (.guard (le (ln (one (v (L T4) 1481))) (c 549755813888))
 (.jump 0 [a (v I 0),a (v (L U) 1),a (s (v (P (L U) I) 1482)),a (v (L V3) 3),a (v (L TR) 4),a (app (v (L (L T4)) 5) (one (v (L T4) 1481)))])))))))
 (.jump 0 [a (sub (v I 0) (c 1)),a (v (L U) 1),a (v I 2),a (v (L V3) 3),a (v (L TR) 4),a (v (L (L T4)) 5)]))
 (.jump 1 [a (v (L U) 1),a (v I 2),a (v (L (L T4)) 5)]))
 (.jump 1 [a (v (L U) 1),a (v I 2),a (v (L (L T4)) 5)]))))
 (.ret [a (v (L (L T4)) 2),a (pr (v (L U) 0) (v I 1))])
def tr_spec_l24Draw:Tr:=.call f_spec_l40Rd_pick [a (pr (f (v (P (L U) I) 0)) (s (v (P (L U) I) 0))),a (c 6)] 100256
 (.loop [a (v I 1),a (add (c 2) (v I 100256)),a (f (v (P (L U) I) 0)),a (s (v (P (L U) I) 100257)),a (nl T4)]
 (.ite (gt (v I 1) (c 0))
 (.call f_spec_l40Rd_num [a (pr (v (L U) 2) (v I 3)),a (app (one (c 1)) (app (one (c 1)) (app (one (c 2)) (app (one (c 3)) (app (one (c 4)) (app (one (c 5)) (app (one (c 6)) (app (one (c 7)) (app (one (c 8)) (app (one (c 9)) (app (one (c 10)) (app (one (c 6)) (app (one (c 7)) (app (one (c 9)) (one (c 0))))))))))))))))] 263
 (.join
 (.ite (eq (ln (v (L T4) 4)) (c 0))
 (.call f_spec_l40Rd_pick [a (pr (v (L U) 2) (s (v (P (L U) I) 264))),a (v I 0)] 1223
 (.ite (eq (v I 0) (c 0))
 (.jump 0 [a (v I 0),a (v I 1),a (v (L U) 2),a (s (v (P (L U) I) 1224)),a (v (L T4) 4),a (c 0),a (c 0),a (c 0),a (c 0)])
 (.ite (eq (v I 263) (c 0))
 (.ite (gt (ln (v (L T4) 4)) (c 0))
 (.jump 0 [a (v I 0),a (v I 1),a (v (L U) 2),a (s (v (P (L U) I) 1224)),a (v (L T4) 4),a (c 0),a (c 0),a (c 0),a (c 0)])
 (.jump 0 [a (v I 0),a (v I 1),a (v (L U) 2),a (s (v (P (L U) I) 1224)),a (v (L T4) 4),a (c 1),a (v I 1223),a (c 0),a (c 0)]))
 (.jump 0 [a (v I 0),a (v I 1),a (v (L U) 2),a (s (v (P (L U) I) 1224)),a (v (L T4) 4),a (c 1),a (v I 1223),a (c 0),a (c 0)]))))
 (.ite (le (v I 263) (c 1))
 (.call f_spec_l40Rd_pick [a (pr (v (L U) 2) (s (v (P (L U) I) 264))),a (v I 0)] 1223
 (.ite (eq (v I 0) (c 0))
 (.jump 0 [a (v I 0),a (v I 1),a (v (L U) 2),a (s (v (P (L U) I) 1224)),a (v (L T4) 4),a (c 0),a (c 0),a (c 0),a (c 0)])
 (.ite (eq (v I 263) (c 0))
 (.ite (gt (ln (v (L T4) 4)) (c 0))
 (.jump 0 [a (v I 0),a (v I 1),a (v (L U) 2),a (s (v (P (L U) I) 1224)),a (v (L T4) 4),a (c 0),a (c 0),a (c 0),a (c 0)])
 (.jump 0 [a (v I 0),a (v I 1),a (v (L U) 2),a (s (v (P (L U) I) 1224)),a (v (L T4) 4),a (c 1),a (v I 1223),a (c 0),a (c 0)]))
 (.jump 0 [a (v I 0),a (v I 1),a (v (L U) 2),a (s (v (P (L U) I) 1224)),a (v (L T4) 4),a (c 1),a (v I 1223),a (c 0),a (c 0)]))))
 (.call f_spec_l40Rd_pick [a (pr (v (L U) 2) (s (v (P (L U) I) 264))),a (c 2)] 1351
 (.call f_spec_l40Rd_pick [a (pr (v (L U) 2) (s (v (P (L U) I) 1352))),a (ln (v (L T4) 4))] 1607
 (.call f_spec_l40Rd_pick [a (pr (v (L U) 2) (s (v (P (L U) I) 1608))),a (ln (v (L T4) 4))] 2119
 (.call f_spec_l24One [a (v I 263)] 2375
 (.ite (v B 2375)
 (.jump 0 [a (v I 0),a (v I 1),a (v (L U) 2),a (s (v (P (L U) I) 2120)),a (v (L T4) 4),a (v I 263),a (c 0),a (sub (sub (ln (v (L T4) 4)) (c 1)) (mul (v I 1351) (v I 1607))),a (sub (sub (ln (v (L T4) 4)) (c 1)) (mul (v I 1351) (v I 1607)))])
 (.jump 0 [a (v I 0),a (v I 1),a (v (L U) 2),a (s (v (P (L U) I) 2120)),a (v (L T4) 4),a (v I 263),a (c 0),a (sub (sub (ln (v (L T4) 4)) (c 1)) (mul (v I 1351) (v I 1607))),a (v I 2119)]))))))))
 (.guard (le (ln (v (L T4) 4)) (c 549755813888))
 (.guard (le (ln (one (pr (v I 5) (pr (v I 6) (pr (v I 7) (v I 8)))))) (c 549755813888))
 (.jump 0 [a (v I 0),a (sub (v I 1) (c 1)),a (v (L U) 2),a (v I 3),a (app (v (L T4) 4) (one (pr (v I 5) (pr (v I 6) (pr (v I 7) (v I 8))))))])))))
 (.ret [a (v (L T4) 4),a (pr (v (L U) 2) (v I 3))])))
def tr_spec_l24Any:Tr:=.call f_spec_l24Draw [a (pr (f (v (P (L U) I) 0)) (s (v (P (L U) I) 0))),a (v I 1)] 100192
 (.join
 (.call f_spec_l40Rd_pick [a (pr (f (v (P (L U) I) 0)) (s (v (P (L U) I) 100193))),a (c 14)] 100384
 (.ite (eq (v I 100384) (c 0))
 (.call f_spec_l40Rd_pick [a (pr (f (v (P (L U) I) 0)) (s (v (P (L U) I) 100385))),a (ln (v (L T4) 100192))] 100704
 (.guard (le (c 0) (v I 100704))
 (.guard (lt (v I 100704) (ln (v (L T4) 100192)))
 (.call f_spec_l40Rd_pick [a (pr (f (v (P (L U) I) 0)) (s (v (P (L U) I) 100705))),a (c 4)] 101280
 (.join
 (.ite (eq (v I 101280) (c 0))
 (.call f_spec_l40Rd_num [a (pr (f (v (P (L U) I) 0)) (s (v (P (L U) I) 101281))),a (app (one (c (-1))) (app (one (c 11)) (app (one (c 2)) (one (c 6)))))] 101664
 (.jump 0 [a (v I 100704),a (f (v (P (L U) I) 0)),a (s (v (P (L U) I) 101665)),a (v (L T4) 100192),a (v I 101664),a (f (s (ix (v (L T4) 100192) (v I 100704)))),a (f (s (s (ix (v (L T4) 100192) (v I 100704))))),a (s (s (s (ix (v (L T4) 100192) (v I 100704)))))]))
 (.ite (eq (v I 101280) (c 1))
 (.call f_spec_l40Rd_num [a (pr (f (v (P (L U) I) 0)) (s (v (P (L U) I) 101281))),a (app (one (v I 1)) (app (one (c (-1))) (one (c 1))))] 101856
 (.jump 0 [a (v I 100704),a (f (v (P (L U) I) 0)),a (s (v (P (L U) I) 101857)),a (v (L T4) 100192),a (f (ix (v (L T4) 100192) (v I 100704))),a (v I 101856),a (f (s (s (ix (v (L T4) 100192) (v I 100704))))),a (s (s (s (ix (v (L T4) 100192) (v I 100704)))))]))
 (.ite (eq (v I 101280) (c 2))
 (.call f_spec_l40Rd_num [a (pr (f (v (P (L U) I) 0)) (s (v (P (L U) I) 101281))),a (app (one (v I 100704)) (one (c (-1))))] 101984
 (.jump 0 [a (v I 100704),a (f (v (P (L U) I) 0)),a (s (v (P (L U) I) 101985)),a (v (L T4) 100192),a (f (ix (v (L T4) 100192) (v I 100704))),a (f (s (ix (v (L T4) 100192) (v I 100704)))),a (v I 101984),a (s (s (s (ix (v (L T4) 100192) (v I 100704)))))]))
 (.call f_spec_l40Rd_num [a (pr (f (v (P (L U) I) 0)) (s (v (P (L U) I) 101281))),a (app (one (v I 100704)) (app (one (c (-1))) (one (c 0))))] 101984
 (.jump 0 [a (v I 100704),a (f (v (P (L U) I) 0)),a (s (v (P (L U) I) 101985)),a (v (L T4) 100192),a (f (ix (v (L T4) 100192) (v I 100704))),a (f (s (ix (v (L T4) 100192) (v I 100704)))),a (f (s (s (ix (v (L T4) 100192) (v I 100704))))),a (v I 101984)])))))
 (.guard (le (c 0) (v I 0))
 (.guard (lt (v I 0) (ln (v (L T4) 3)))
 (.jump 0 [a (v (L U) 1),a (v I 2),a (st (v (L T4) 3) (v I 0) (pr (v I 4) (pr (v I 5) (pr (v I 6) (v I 7)))))]))))))))
 (.jump 0 [a (f (v (P (L U) I) 0)),a (s (v (P (L U) I) 100385)),a (v (L T4) 100192)])))
 (.ret [a (v (L T4) 2),a (pr (v (L U) 0) (v I 1))]))
def tr_spec_l24Ask:Tr:=.call f_spec_l40Open [a (v (L U) 0)] 100320
 (.call f_spec_l2Any [a (pr (f (v (P (L U) I) 100320)) (s (v (P (L U) I) 100320))),a (c 24)] 100512
 (.join
 (.ite (gt (ln (v (L V3) 100512)) (c 0))
 (.guard (lt (c 0) (ln (v (L V3) 100512)))
 (.call f_spec_l2Var [a (f (ix (v (L V3) 100512) (c 0))),a (f (s (ix (v (L V3) 100512) (c 0)))),a (s (s (ix (v (L V3) 100512) (c 0))))] 101408
 (.ite (v B 101408)
 (.call f_spec_l40Rd_num [a (pr (f (v (P (L U) I) 100320)) (s (v (P (L U) I) 100514))),a (app (one (c 1)) (app (one (c 2)) (one (c 1))))] 101664
 (.loop [a (v I 101664),a (f (v (P (L U) I) 100320)),a (s (v (P (L U) I) 101665)),a (v (L V3) 100512),a (v (L TR) 100513),a (nl (L T4))]
 (.ite (gt (v I 0) (c 0))
 (.guard (lt (c 0) (ln (v (L V3) 3)))
 (.call f_spec_l2Cond [a (pr (v (L U) 1) (v I 2)),a (f (ix (v (L V3) 3) (c 0))),a (f (s (ix (v (L V3) 3) (c 0)))),a (s (s (ix (v (L V3) 3) (c 0)))),a (c 0)] 524
 (.guard (le (ln (v (L (L T4)) 5)) (c 549755813888))
 (.guard (le (ln (one (v (L T4) 524))) (c 549755813888))
 (.jump 0 [a (sub (v I 0) (c 1)),a (v (L U) 1),a (s (v (P (L U) I) 525)),a (v (L V3) 3),a (v (L TR) 4),a (app (v (L (L T4)) 5) (one (v (L T4) 524)))])))))
 (.jump 1 [a (v (L U) 1),a (v I 2),a (v (L V3) 3),a (v (L TR) 4),a (v (L (L T4)) 5)]))))
 (.jump 0 [a (f (v (P (L U) I) 100320)),a (s (v (P (L U) I) 100514)),a (v (L V3) 100512),a (v (L TR) 100513),a (nl (L T4))]))))
 (.jump 0 [a (f (v (P (L U) I) 100320)),a (s (v (P (L U) I) 100514)),a (v (L V3) 100512),a (v (L TR) 100513),a (nl (L T4))]))
 (.join
 (.call f_spec_l40Rd_pick [a (pr (v (L U) 0) (v I 1)),a (c 20)] 75
 (.ite (eq (v I 75) (c 0))
 (.call f_spec_l20Asked [a (pr (v (L U) 0) (s (v (P (L U) I) 76))),a (v (L V3) 2),a (v (L TR) 3)] 331
 (.jump 0 [a (v (L U) 0),a (s (v (P (L U) I) 332)),a (v (L V3) 2),a (v (L TR) 3),a (v (L (L T4)) 331)]))
 (.jump 0 [a (v (L U) 0),a (s (v (P (L U) I) 76)),a (v (L V3) 2),a (v (L TR) 3),a (v (L (L T4)) 4)])))
 (.call f_spec_l24Any [a (pr (v (L U) 0) (v I 1)),a (ln (v (L (L T4)) 4))] 395
 (.join
 (.jump 0 [a (v (L U) 0),a (s (v (P (L U) I) 396)),a (v (L V3) 2),a (v (L TR) 3),a (v (L (L T4)) 4),a (v (L T4) 395)])
 (.ret [a (pr (v (L U) 0) (v I 1)),a (v (L V3) 2),a (v (L TR) 3),a (v (L (L T4)) 4),a (v (L T4) 5)]))))))
def tr_spec_DrawTreeSets:Tr:=.call f_spec_l24Ask [a (v (L U) 0)] 100256
 (.ret [a (v (L V3) 100257),a (v (L TR) 100258),a (v (L (L T4)) 100259),a (v (L T4) 100260)])
def tr_impl_SizeOf:Tr:=.call f_impl_SystemValid [a (v (L V3) 0),a (v (L TR) 1)] 100192
 (.ite (nt (v B 100192))
 (.ret [a (c 0)])
 (.call f_impl_size [a (v (L V3) 0)] 100448
 (.ret [a (v I 100448)])))
def tr_laws_wcInts:Tr:=.ite (ne (ln (v (L I) 0)) (ln (v (L I) 1)))
 (.ret [a (k false)])
 (.loop [a (v (L I) 1),a (v (L I) 0),a (ln (v (L I) 0)),a (c 0)]
 (.ite (lt (v I 3) (v I 2))
 (.guard (le (c 0) (v I 3))
 (.guard (lt (v I 3) (ln (v (L I) 1)))
 (.guard (le (c 0) (v I 3))
 (.guard (lt (v I 3) (ln (v (L I) 0)))
 (.ite (ne (ix (v (L I) 0) (v I 3)) (ix (v (L I) 1) (v I 3)))
 (.ret [a (k false)])
 (.jump 0 [a (v (L I) 0),a (v (L I) 1),a (v I 2),a (add (v I 3) (c 1))]))))))
 (.ret [a (k true)])))
def tr_impl_setOk:Tr:=.loop [a (v (L I) 0),a (v I 1),a (v (L I) 0),a (ln (v (L I) 0)),a (c 0)]
 (.ite (lt (v I 4) (v I 3))
 (.join
 (.guard (le (c 0) (v I 4))
 (.guard (lt (v I 4) (ln (v (L I) 2)))
 (.call f_impl_in [a (ix (v (L I) 2) (v I 4)),a (c 0),a (sub (v I 1) (c 1))] 581
 (.ite (nt (v B 581))
 (.ret [a (k false)])
 (.ite (gt (v I 4) (c 0))
 (.guard (le (c 0) (sub (v I 4) (c 1)))
 (.guard (lt (sub (v I 4) (c 1)) (ln (v (L I) 0)))
 (.ite (ge (ix (v (L I) 0) (sub (v I 4) (c 1))) (ix (v (L I) 2) (v I 4)))
 (.ret [a (k false)])
 (.jump 0 [a (v (L I) 0),a (v I 1),a (v (L I) 2),a (v I 3),a (v I 4)]))))
 (.jump 0 [a (v (L I) 0),a (v I 1),a (v (L I) 2),a (v I 3),a (v I 4)]))))))
 (.jump 0 [a (v (L I) 0),a (v I 1),a (v (L I) 2),a (v I 3),a (add (v I 4) (c 1))]))
 (.ret [a (k true)]))
def tr_impl_SetValid:Tr:=.call f_impl_SystemValid [a (v (L V3) 0),a (v (L TR) 1)] 100192
 (.ite (v B 100192)
 (.call f_impl_size [a (v (L V3) 0)] 100512
 (.call f_impl_setOk [a (v (L I) 2),a (v I 100512)] 100576
 (.ret [a (v B 100576)])))
 (.ret [a (k false)]))
def tr_impl_over:Tr:=.guard (le (c 0) (ln (v (L (L I)) 0)))
 (.guard (le (ln (v (L (L I)) 0)) (c 549755813888))
 (.loop [a (v (L (L I)) 0),a (v (L I) 1),a (ln (v (L I) 1)),a (c 0),a (rep (ln (v (L (L I)) 0)) (z B))]
 (.ite (lt (v I 3) (v I 2))
 (.guard (le (c 0) (v I 3))
 (.guard (lt (v I 3) (ln (v (L I) 1)))
 (.guard (le (c 0) (ix (v (L I) 1) (v I 3)))
 (.guard (lt (ix (v (L I) 1) (v I 3)) (ln (v (L (L I)) 0)))
 (.loop [a (v (L (L I)) 0),a (v (L I) 1),a (v I 2),a (v I 3),a (ix (v (L (L I)) 0) (ix (v (L I) 1) (v I 3))),a (ln (ix (v (L (L I)) 0) (ix (v (L I) 1) (v I 3)))),a (c 0),a (v (L B) 4)]
 (.ite (lt (v I 6) (v I 5))
 (.guard (le (c 0) (v I 6))
 (.guard (lt (v I 6) (ln (v (L I) 4)))
 (.guard (le (c 0) (ix (v (L I) 4) (v I 6)))
 (.guard (lt (ix (v (L I) 4) (v I 6)) (ln (v (L B) 7)))
 (.jump 0 [a (v (L (L I)) 0),a (v (L I) 1),a (v I 2),a (v I 3),a (v (L I) 4),a (v I 5),a (add (v I 6) (c 1)),a (st (v (L B) 7) (ix (v (L I) 4) (v I 6)) (k true))])))))
 (.jump 1 [a (v (L (L I)) 0),a (v (L I) 1),a (v I 2),a (add (v I 3) (c 1)),a (v (L B) 7)])))))))
 (.call f_impl_listOf [a (v (L B) 4)] 134
 (.ret [a (v (L I) 134)])))))
def tr_impl_NextNumbers:Tr:=.call f_impl_SetValid [a (v (L V3) 0),a (v (L TR) 1),a (v (L I) 2)] 100256
 (.ite (nt (v B 100256))
 (.ret [a (nl I)])
 (.call f_impl_nexts [a (v (L V3) 0),a (v (L TR) 1)] 100448
 (.call f_impl_over [a (v (L (L I)) 100448),a (v (L I) 2)] 100576
 (.ret [a (v (L I) 100576)]))))
def tr_impl_marks:Tr:=.guard (le (c 0) (v I 1))
 (.guard (le (v I 1) (c 549755813888))
 (.loop [a (v (L I) 0),a (ln (v (L I) 0)),a (c 0),a (rep (v I 1) (z B))]
 (.ite (lt (v I 2) (v I 1))
 (.guard (le (c 0) (v I 2))
 (.guard (lt (v I 2) (ln (v (L I) 0)))
 (.guard (le (c 0) (ix (v (L I) 0) (v I 2)))
 (.guard (lt (ix (v (L I) 0) (v I 2)) (ln (v (L B) 3)))
 (.jump 0 [a (v (L I) 0),a (v I 1),a (add (v I 2) (c 1)),a (st (v (L B) 3) (ix (v (L I) 0) (v I 2)) (k true))])))))
 (.ret [a (v (L B) 3)]))))
def tr_impl_SetBoth:Tr:=.call f_impl_setOk [a (v (L I) 0),a (c 400)] 100384
 (.ite (nt (v B 100384))
 (.ret [a (nl I)])
 (.call f_impl_setOk [a (v (L I) 1),a (c 400)] 100640
 (.ite (nt (v B 100640))
 (.ret [a (nl I)])
 (.call f_impl_marks [a (v (L I) 0),a (c 400)] 100896
 (.call f_impl_marks [a (v (L I) 1),a (c 400)] 101024
 (.loop [a (ln (rep (c 400) (z B))),a (c 0),a (v (L B) 100896),a (v (L B) 101024),a (rep (c 400) (z B))]
 (.ite (lt (v I 1) (v I 0))
 (.join
 (.guard (le (c 0) (v I 1))
 (.guard (lt (v I 1) (ln (v (L B) 2)))
 (.guard (le (c 0) (v I 1))
 (.guard (lt (v I 1) (ln (v (L B) 3)))
 (.ite (ix (v (L B) 2) (v I 1))
 (.guard (le (c 0) (v I 1))
 (.guard (lt (v I 1) (ln (v (L B) 4)))
 (.jump 0 [a (v I 0),a (v I 1),a (v (L B) 2),a (v (L B) 3),a (st (v (L B) 4) (v I 1) (ix (v (L B) 3) (v I 1)))])))
 (.guard (le (c 0) (v I 1))
 (.guard (lt (v I 1) (ln (v (L B) 4)))
 (.jump 0 [a (v I 0),a (v I 1),a (v (L B) 2),a (v (L B) 3),a (st (v (L B) 4) (v I 1) (k false))]))))))))
 (.jump 0 [a (v I 0),a (add (v I 1) (c 1)),a (v (L B) 2),a (v (L B) 3),a (v (L B) 4)]))
 (.call f_impl_listOf [a (v (L B) 4)] 136
 (.ret [a (v (L I) 136)])))))))))
def tr_impl_SetWithout:Tr:=.call f_impl_setOk [a (v (L I) 0),a (c 400)] 100384
 (.ite (nt (v B 100384))
 (.ret [a (nl I)])
 (.call f_impl_setOk [a (v (L I) 1),a (c 400)] 100640
 (.ite (nt (v B 100640))
 (.ret [a (nl I)])
 (.call f_impl_marks [a (v (L I) 0),a (c 400)] 100896
 (.call f_impl_marks [a (v (L I) 1),a (c 400)] 101024
 (.loop [a (ln (rep (c 400) (z B))),a (c 0),a (v (L B) 100896),a (v (L B) 101024),a (rep (c 400) (z B))]
 (.ite (lt (v I 1) (v I 0))
 (.join
 (.guard (le (c 0) (v I 1))
 (.guard (lt (v I 1) (ln (v (L B) 2)))
 (.guard (le (c 0) (v I 1))
 (.guard (lt (v I 1) (ln (v (L B) 3)))
 (.ite (ix (v (L B) 2) (v I 1))
 (.guard (le (c 0) (v I 1))
 (.guard (lt (v I 1) (ln (v (L B) 4)))
 (.jump 0 [a (v I 0),a (v I 1),a (v (L B) 2),a (v (L B) 3),a (st (v (L B) 4) (v I 1) (nt (ix (v (L B) 3) (v I 1))))])))
 (.guard (le (c 0) (v I 1))
 (.guard (lt (v I 1) (ln (v (L B) 4)))
 (.jump 0 [a (v I 0),a (v I 1),a (v (L B) 2),a (v (L B) 3),a (st (v (L B) 4) (v I 1) (k false))]))))))))
 (.jump 0 [a (v I 0),a (add (v I 1) (c 1)),a (v (L B) 2),a (v (L B) 3),a (v (L B) 4)]))
 (.call f_impl_listOf [a (v (L B) 4)] 136
 (.ret [a (v (L I) 136)])))))))))
def tr_laws_wcHas:Tr:=.loop [a (v I 1),a (v (L I) 0),a (ln (v (L I) 0)),a (c 0)]
 (.ite (lt (v I 3) (v I 2))
 (.guard (le (c 0) (v I 3))
 (.guard (lt (v I 3) (ln (v (L I) 1)))
 (.ite (eq (ix (v (L I) 1) (v I 3)) (v I 0))
 (.ret [a (k true)])
 (.jump 0 [a (v I 0),a (v (L I) 1),a (v I 2),a (add (v I 3) (c 1))]))))
 (.ret [a (k false)]))
def tr_laws_FnTreeSets:Tr:=.ite (gt (ln (v (L U) 0)) (c 1048576))
 (.ret [a (k true)])
 (.call f_spec_DrawTreeSets [a (v (L U) 0)] 100320
 (.call f_impl_TreeSets [a (v (L V3) 100320),a (v (L TR) 100321),a (v (L (L T4)) 100322),a (v (L T4) 100323)] 101088
 (.call f_spec_TreeSets [a (v (L V3) 100320),a (v (L TR) 100321),a (v (L (L T4)) 100322),a (v (L T4) 100323)] 101408
 (.ite (ne (lm (v (N (L I)) 101088)) (ln (v (L (L I)) 101408)))
 (.ret [a (k false)])
 (.call f_impl_SizeOf [a (v (L V3) 100320),a (v (L TR) 100321)] 102048
 (.call f_spec_SizeOf [a (v (L V3) 100320),a (v (L TR) 100321)] 102112
 (.ite (ne (v I 102048) (v I 102112))
 (.ret [a (k false)])
 (.loop [a (v (L T4) 100323),a (v (N (L I)) 101088),a (v (N (L I)) 101088),a (lm (v (N (L I)) 101088)),a (c 0),a (v (L V3) 100320),a (v (L TR) 100321),a (v (L (L I)) 101408)]
 (.ite (lt (v I 4) (v I 3))
 (.guard (le (c 0) (v I 4))
 (.guard (lt (v I 4) (lm (v (N (L I)) 2)))
 (.guard (le (c 0) (v I 4))
 (.guard (lt (v I 4) (ln (v (L T4) 0)))
 (.guard (le (c 0) (v I 4))
 (.guard (lt (v I 4) (ln (v (L (L I)) 7)))
 (.call f_laws_wcInts [a (im (v (N (L I)) 2) (v I 4)),a (ix (v (L (L I)) 7) (v I 4))] 1098
 (.ite (nt (v B 1098))
 (.ret [a (k false)])
 (.call f_impl_SizeOf [a (v (L V3) 5),a (v (L TR) 6)] 1290
 (.loop [a (v (L T4) 0),a (v (N (L I)) 1),a (im (v (N (L I)) 2) (v I 4)),a (v (N (L I)) 2),a (v I 3),a (v I 4),a (v I 1290),a (c 0),a (v (L V3) 5),a (v (L TR) 6),a (v (L (L I)) 7),a (f (ix (v (L T4) 0) (v I 4))),a (f (s (ix (v (L T4) 0) (v I 4)))),a (f (s (s (ix (v (L T4) 0) (v I 4))))),a (s (s (s (ix (v (L T4) 0) (v I 4)))))]
 (.ite (lt (v I 7) (v I 6))
 (.join
 (.call f_impl_NextNumbers [a (v (L V3) 8),a (v (L TR) 9),a (one (v I 7))] 402
 (.join
 (.ite (eq (ln (v (L I) 402)) (c 0))
 (.jump 0 [a (v (L T4) 0),a (v (N (L I)) 1),a (v (L I) 2),a (v I 7),a (v (N (L I)) 3),a (v I 4),a (v I 5),a (v I 6),a (v I 7),a (v (L V3) 8),a (v (L TR) 9),a (v (L (L I)) 10),a (v I 11),a (v I 12),a (v I 13),a (v I 14),a (one (v I 7))])
 (.jump 0 [a (v (L T4) 0),a (v (N (L I)) 1),a (v (L I) 2),a (v I 7),a (v (N (L I)) 3),a (v I 4),a (v I 5),a (v I 6),a (v I 7),a (v (L V3) 8),a (v (L TR) 9),a (v (L (L I)) 10),a (v I 11),a (v I 12),a (v I 13),a (v I 14),a (v (L I) 402)]))
 (.call f_impl_SetBoth [a (v (L I) 16),a (v (L I) 2)] 149
 (.call f_impl_SetWithout [a (v (L I) 16),a (v (L I) 2)] 469
 (.guard (le (c 0) (v I 14))
 (.guard (lt (v I 14) (lm (v (N (L I)) 1)))
 (.guard (le (c 0) (v I 15))
 (.guard (lt (v I 15) (lm (v (N (L I)) 1)))
 (.call f_laws_wcHas [a (v (L I) 2),a (v I 3)] 1685
 (.call f_laws_wcHas [a (im (v (N (L I)) 1) (v I 14)),a (v I 3)] 1749
 (.call f_laws_wcHas [a (im (v (N (L I)) 1) (v I 15)),a (v I 3)] 1813
 (.ite (eq (v I 12) (c 6))
 (.ite (v B 1813)
 (.ite (.o2 .bne (v B 1685) (k true))
 (.ret [a (k false)])
 (.ite (eq (v I 12) (c 9))
 (.ite (.o2 .bne (v B 1685) (k true))
 (.ret [a (k false)])
 (.ite (eq (v I 12) (c 7))
 (.ite (v B 1749)
 (.ite (.o2 .bne (v B 1685) (gt (ln (v (L I) 149)) (c 0)))
 (.ret [a (k false)])
 (.ite (eq (v I 12) (c 10))
 (.ite (.o2 .bne (v B 1685) (eq (ln (v (L I) 469)) (c 0)))
 (.ret [a (k false)])
 (.jump 0 [a (v (L T4) 0),a (v (N (L I)) 1),a (v (L I) 2),a (v (N (L I)) 4),a (v I 5),a (v I 6),a (v I 7),a (v I 8),a (v (L V3) 9),a (v (L TR) 10),a (v (L (L I)) 11),a (v I 12),a (v I 13),a (v I 14),a (v I 15)]))
 (.jump 0 [a (v (L T4) 0),a (v (N (L I)) 1),a (v (L I) 2),a (v (N (L I)) 4),a (v I 5),a (v I 6),a (v I 7),a (v I 8),a (v (L V3) 9),a (v (L TR) 10),a (v (L (L I)) 11),a (v I 12),a (v I 13),a (v I 14),a (v I 15)])))
 (.ite (.o2 .bne (v B 1685) (k false))
 (.ret [a (k false)])
 (.ite (eq (v I 12) (c 10))
 (.ite (.o2 .bne (v B 1685) (k false))
 (.ret [a (k false)])
 (.jump 0 [a (v (L T4) 0),a (v (N (L I)) 1),a (v (L I) 2),a (v (N (L I)) 4),a (v I 5),a (v I 6),a (v I 7),a (v I 8),a (v (L V3) 9),a (v (L TR) 10),a (v (L (L I)) 11),a (v I 12),a (v I 13),a (v I 14),a (v I 15)]))
 (.jump 0 [a (v (L T4) 0),a (v (N (L I)) 1),a (v (L I) 2),a (v (N (L I)) 4),a (v I 5),a (v I 6),a (v I 7),a (v I 8),a (v (L V3) 9),a (v (L TR) 10),a (v (L (L I)) 11),a (v I 12),a (v I 13),a (v I 14),a (v I 15)]))))
 (.ite (eq (v I 12) (c 10))
 (.ite (v B 1749)
 (.ite (.o2 .bne (v B 1685) (eq (ln (v (L I) 469)) (c 0)))
 (.ret [a (k false)])
 (.jump 0 [a (v (L T4) 0),a (v (N (L I)) 1),a (v (L I) 2),a (v (N (L I)) 4),a (v I 5),a (v I 6),a (v I 7),a (v I 8),a (v (L V3) 9),a (v (L TR) 10),a (v (L (L I)) 11),a (v I 12),a (v I 13),a (v I 14),a (v I 15)]))
 (.ite (.o2 .bne (v B 1685) (k false))
 (.ret [a (k false)])
 (.jump 0 [a (v (L T4) 0),a (v (N (L I)) 1),a (v (L I) 2),a (v (N (L I)) 4),a (v I 5),a (v I 6),a (v I 7),a (v I 8),a (v (L V3) 9),a (v (L TR) 10),a (v (L (L I)) 11),a (v I 12),a (v I 13),a (v I 14),a (v I 15)])))
 (.jump 0 [a (v (L T4) 0),a (v (N (L I)) 1),a (v (L I) 2),a (v (N (L I)) 4),a (v I 5),a (v I 6),a (v I 7),a (v I 8),a (v (L V3) 9),a (v (L TR) 10),a (v (L (L I)) 11),a (v I 12),a (v I 13),a (v I 14),a (v I 15)]))))
 (.ite (eq (v I 12) (c 7))
 (.ite (v B 1749)
 (.ite (.o2 .bne (v B 1685) (gt (ln (v (L I) 149)) (c 0)))
 (.ret [a (k false)])
 (.ite (eq (v I 12) (c 10))
 (.ite (.o2 .bne (v B 1685) (eq (ln (v (L I) 469)) (c 0)))
 (.ret [a (k false)])
 (.jump 0 [a (v (L T4) 0),a (v (N (L I)) 1),a (v (L I) 2),a (v (N (L I)) 4),a (v I 5),a (v I 6),a (v I 7),a (v I 8),a (v (L V3) 9),a (v (L TR) 10),a (v (L (L I)) 11),a (v I 12),a (v I 13),a (v I 14),a (v I 15)]))
 (.jump 0 [a (v (L T4) 0),a (v (N (L I)) 1),a (v (L I) 2),a (v (N (L I)) 4),a (v I 5),a (v I 6),a (v I 7),a (v I 8),a (v (L V3) 9),a (v (L TR) 10),a (v (L (L I)) 11),a (v I 12),a (v I 13),a (v I 14),a (v I 15)])))
 (.ite (.o2 .bne (v B 1685) (k false))
 (.ret [a (k false)])
 (.ite (eq (v I 12) (c 10))
 (.ite (.o2 .bne (v B 1685) (k false))
 (.ret [a (k false)])
 (.jump 0 [a (v (L T4) 0),a (v (N (L I)) 1),a (v (L I) 2),a (v (N (L I)) 4),a (v I 5),a (v I 6),a (v I 7),a (v I 8),a (v (L V3) 9),a (v (L TR) 10),a (v (L (L I)) 11),a (v I 12),a (v I 13),a (v I 14),a (v I 15)]))
 (.jump 0 [a (v (L T4) 0),a (v (N (L I)) 1),a (v (L I) 2),a (v (N (L I)) 4),a (v I 5),a (v I 6),a (v I 7),a (v I 8),a (v (L V3) 9),a (v (L TR) 10),a (v (L (L I)) 11),a (v I 12),a (v I 13),a (v I 14),a (v I 15)]))))
 (.ite (eq (v I 12) (c 10))
 (.ite (v B 1749)
 (.ite (.o2 .bne (v B 1685) (eq (ln (v (L I) 469)) (c 0)))
 (.ret [a (k false)])
 (.jump 0 [a (v (L T4) 0),a (v (N (L I)) 1),a (v (L I) 2),a (v (N (L I)) 4),a (v I 5),a (v I 6),a (v I 7),a (v I 8),a (v (L V3) 9),a (v (L TR) 10),a (v (L (L I)) 11),a (v I 12),a (v I 13),a (v I 14),a (v I 15)]))
 (.ite (.o2 .bne (v B 1685) (k false))
 (.ret [a (k false)])
 (.jump 0 [a (v (L T4) 0),a (v (N (L I)) 1),a (v (L I) 2),a (v (N (L I)) 4),a (v I 5),a (v I 6),a (v I 7),a (v I 8),a (v (L V3) 9),a (v (L TR) 10),a (v (L (L I)) 11),a (v I 12),a (v I 13),a (v I 14),a (v I 15)])))
 (.jump 0 [a (v (L T4) 0),a (v (N (L I)) 1),a (v (L I) 2),a (v (N (L I)) 4),a (v I 5),a (v I 6),a (v I 7),a (v I 8),a (v (L V3) 9),a (v (L TR) 10),a (v (L (L I)) 11),a (v I 12),a (v I 13),a (v I 14),a (v I 15)])))))
 (.ite (v B 1749)
 (.ite (.o2 .bne (v B 1685) (gt (ln (v (L I) 149)) (c 0)))
 (.ret [a (k false)])
 (.ite (eq (v I 12) (c 9))
 (.ite (.o2 .bne (v B 1685) (eq (ln (v (L I) 469)) (c 0)))
 (.ret [a (k false)])
 (.ite (eq (v I 12) (c 7))
 (.ite (.o2 .bne (v B 1685) (gt (ln (v (L I) 149)) (c 0)))
 (.ret [a (k false)])
 (.ite (eq (v I 12) (c 10))
 (.ite (.o2 .bne (v B 1685) (eq (ln (v (L I) 469)) (c 0)))
 (.ret [a (k false)])
 (.jump 0 [a (v (L T4) 0),a (v (N (L I)) 1),a (v (L I) 2),a (v (N (L I)) 4),a (v I 5),a (v I 6),a (v I 7),a (v I 8),a (v (L V3) 9),a (v (L TR) 10),a (v (L (L I)) 11),a (v I 12),a (v I 13),a (v I 14),a (v I 15)]))
 (.jump 0 [a (v (L T4) 0),a (v (N (L I)) 1),a (v (L I) 2),a (v (N (L I)) 4),a (v I 5),a (v I 6),a (v I 7),a (v I 8),a (v (L V3) 9),a (v (L TR) 10),a (v (L (L I)) 11),a (v I 12),a (v I 13),a (v I 14),a (v I 15)])))
 (.ite (eq (v I 12) (c 10))
 (.ite (.o2 .bne (v B 1685) (eq (ln (v (L I) 469)) (c 0)))
 (.ret [a (k false)])
 (.jump 0 [a (v (L T4) 0),a (v (N (L I)) 1),a (v (L I) 2),a (v (N (L I)) 4),a (v I 5),a (v I 6),a (v I 7),a (v I 8),a (v (L V3) 9),a (v (L TR) 10),a (v (L (L I)) 11),a (v I 12),a (v I 13),a (v I 14),a (v I 15)]))
 (.jump 0 [a (v (L T4) 0),a (v (N (L I)) 1),a (v (L I) 2),a (v (N (L I)) 4),a (v I 5),a (v I 6),a (v I 7),a (v I 8),a (v (L V3) 9),a (v (L TR) 10),a (v (L (L I)) 11),a (v I 12),a (v I 13),a (v I 14),a (v I 15)]))))
 (.ite (eq (v I 12) (c 7))
 (.ite (.o2 .bne (v B 1685) (gt (ln (v (L I) 149)) (c 0)))
 (.ret [a (k false)])
 (.ite (eq (v I 12) (c 10))
 (.ite (.o2 .bne (v B 1685) (eq (ln (v (L I) 469)) (c 0)))
 (.ret [a (k false)])
 (.jump 0 [a (v (L T4) 0),a (v (N (L I)) 1),a (v (L I) 2),a (v (N (L I)) 4),a (v I 5),a (v I 6),a (v I 7),a (v I 8),a (v (L V3) 9),a (v (L TR) 10),a (v (L (L I)) 11),a (v I 12),a (v I 13),a (v I 14),a (v I 15)]))
 (.jump 0 [a (v (L T4) 0),a (v (N (L I)) 1),a (v (L I) 2),a (v (N (L I)) 4),a (v I 5),a (v I 6),a (v I 7),a (v I 8),a (v (L V3) 9),a (v (L TR) 10),a (v (L (L I)) 11),a (v I 12),a (v I 13),a (v I 14),a (v I 15)])))
 (.ite (eq (v I 12) (c 10))
 (.ite (.o2 .bne (v B 1685) (eq (ln (v (L I) 469)) (c 0)))
 (.ret [a (k false)])
 (.jump 0 [a (v (L T4) 0),a (v (N (L I)) 1),a (v (L I) 2),a (v (N (L I)) 4),a (v I 5),a (v I 6),a (v I 7),a (v I 8),a (v (L V3) 9),a (v (L TR) 10),a (v (L (L I)) 11),a (v I 12),a (v I 13),a (v I 14),a (v I 15)]))
 (.jump 0 [a (v (L T4) 0),a (v (N (L I)) 1),a (v (L I) 2),a (v (N (L I)) 4),a (v I 5),a (v I 6),a (v I 7),a (v I 8),a (v (L V3) 9),a (v (L TR) 10),a (v (L (L I)) 11),a (v I 12),a (v I 13),a (v I 14),a (v I 15)])))))
 (.ite (.o2 .bne (v B 1685) (k false))
 (.ret [a (k false)])
 (.ite (eq (v I 12) (c 9))
 (.ite (.o2 .bne (v B 1685) (k false))
 (.ret [a (k false)])
 (.ite (eq (v I 12) (c 7))
 (.ite (.o2 .bne (v B 1685) (k false))
 (.ret [a (k false)])
 (.ite (eq (v I 12) (c 10))
 (.ite (.o2 .bne (v B 1685) (k false))
 (.ret [a (k false)])
 (.jump 0 [a (v (L T4) 0),a (v (N (L I)) 1),a (v (L I) 2),a (v (N (L I)) 4),a (v I 5),a (v I 6),a (v I 7),a (v I 8),a (v (L V3) 9),a (v (L TR) 10),a (v (L (L I)) 11),a (v I 12),a (v I 13),a (v I 14),a (v I 15)]))
 (.jump 0 [a (v (L T4) 0),a (v (N (L I)) 1),a (v (L I) 2),a (v (N (L I)) 4),a (v I 5),a (v I 6),a (v I 7),a (v I 8),a (v (L V3) 9),a (v (L TR) 10),a (v (L (L I)) 11),a (v I 12),a (v I 13),a (v I 14),a (v I 15)])))
 (.ite (eq (v I 12) (c 10))
 (.ite (.o2 .bne (v B 1685) (k false))
 (.ret [a (k false)])
 (.jump 0 [a (v (L T4) 0),a (v (N (L I)) 1),a (v (L I) 2),a (v (N (L I)) 4),a (v I 5),a (v I 6),a (v I 7),a (v I 8),a (v (L V3) 9),a (v (L TR) 10),a (v (L (L I)) 11),a (v I 12),a (v I 13),a (v I 14),a (v I 15)]))
 (.jump 0 [a (v (L T4) 0),a (v (N (L I)) 1),a (v (L I) 2),a (v (N (L I)) 4),a (v I 5),a (v I 6),a (v I 7),a (v I 8),a (v (L V3) 9),a (v (L TR) 10),a (v (L (L I)) 11),a (v I 12),a (v I 13),a (v I 14),a (v I 15)]))))
 (.ite (eq (v I 12) (c 7))
 (.ite (.o2 .bne (v B 1685) (k false))
 (.ret [a (k false)])
 (.ite (eq (v I 12) (c 10))
 (.ite (.o2 .bne (v B 1685) (k false))
 (.ret [a (k false)])
 (.jump 0 [a (v (L T4) 0),a (v (N (L I)) 1),a (v (L I) 2),a (v (N (L I)) 4),a (v I 5),a (v I 6),a (v I 7),a (v I 8),a (v (L V3) 9),a (v (L TR) 10),a (v (L (L I)) 11),a (v I 12),a (v I 13),a (v I 14),a (v I 15)]))
 (.jump 0 [a (v (L T4) 0),a (v (N (L I)) 1),a (v (L I) 2),a (v (N (L I)) 4),a (v I 5),a (v I 6),a (v I 7),a (v I 8),a (v (L V3) 9),a (v (L TR) 10),a (v (L (L I)) 11),a (v I 12),a (v I 13),a (v I 14),a (v I 15)])))
 (.ite (eq (v I 12) (c 10))
 (.ite (.o2 .bne (v B 1685) (k false))
 (.ret [a (k false)])
 (.jump 0 [a (v (L T4) 0),a (v (N (L I)) 1),a (v (L I) 2),a (v (N (L I)) 4),a (v I 5),a (v I 6),a (v I 7),a (v I 8),a (v (L V3) 9),a (v (L TR) 10),a (v (L (L I)) 11),a (v I 12),a (v I 13),a (v I 14),a (v I 15)]))
 (.jump 0 [a (v (L T4) 0),a (v (N (L I)) 1),a (v (L I) 2),a (v (N (L I)) 4),a (v I 5),a (v I 6),a (v I 7),a (v I 8),a (v (L V3) 9),a (v (L TR) 10),a (v (L (L I)) 11),a (v I 12),a (v I 13),a (v I 14),a (v I 15)])))))))
 (.ite (eq (v I 12) (c 9))
 (.ite (v B 1813)
 (.ite (.o2 .bne (v B 1685) (k true))
 (.ret [a (k false)])
 (.ite (eq (v I 12) (c 7))
 (.ite (v B 1749)
 (.ite (.o2 .bne (v B 1685) (gt (ln (v (L I) 149)) (c 0)))
 (.ret [a (k false)])
 (.ite (eq (v I 12) (c 10))
 (.ite (.o2 .bne (v B 1685) (eq (ln (v (L I) 469)) (c 0)))
 (.ret [a (k false)])
 (.jump 0 [a (v (L T4) 0),a (v (N (L I)) 1),a (v (L I) 2),a (v (N (L I)) 4),a (v I 5),a (v I 6),a (v I 7),a (v I 8),a (v (L V3) 9),a (v (L TR) 10),a (v (L (L I)) 11),a (v I 12),a (v I 13),a (v I 14),a (v I 15)]))
 (.jump 0 [a (v (L T4) 0),a (v (N (L I)) 1),a (v (L I) 2),a (v (N (L I)) 4),a (v I 5),a (v I 6),a (v I 7),a (v I 8),a (v (L V3) 9),a (v (L TR) 10),a (v (L (L I)) 11),a (v I 12),a (v I 13),a (v I 14),a (v I 15)])))
 (.ite (.o2 .bne (v B 1685) (k false))
 (.ret [a (k false)])
 (.ite (eq (v I 12) (c 10))
 (.ite (.o2 .bne (v B 1685) (k false))
 (.ret [a (k false)])
 (.jump 0 [a (v (L T4) 0),a (v (N (L I)) 1),a (v (L I) 2),a (v (N (L I)) 4),a (v I 5),a (v I 6),a (v I 7),a (v I 8),a (v (L V3) 9),a (v (L TR) 10),a (v (L (L I)) 11),a (v I 12),a (v I 13),a (v I 14),a (v I 15)]))
 (.jump 0 [a (v (L T4) 0),a (v (N (L I)) 1),a (v (L I) 2),a (v (N (L I)) 4),a (v I 5),a (v I 6),a (v I 7),a (v I 8),a (v (L V3) 9),a (v (L TR) 10),a (v (L (L I)) 11),a (v I 12),a (v I 13),a (v I 14),a (v I 15)]))))
 (.ite (eq (v I 12) (c 10))
 (.ite (v B 1749)
 (.ite (.o2 .bne (v B 1685) (eq (ln (v (L I) 469)) (c 0)))
 (.ret [a (k false)])
 (.jump 0 [a (v (L T4) 0),a (v (N (L I)) 1),a (v (L I) 2),a (v (N (L I)) 4),a (v I 5),a (v I 6),a (v I 7),a (v I 8),a (v (L V3) 9),a (v (L TR) 10),a (v (L (L I)) 11),a (v I 12),a (v I 13),a (v I 14),a (v I 15)]))
 (.ite (.o2 .bne (v B 1685) (k false))
 (.ret [a (k false)])
 (.jump 0 [a (v (L T4) 0),a (v (N (L I)) 1),a (v (L I) 2),a (v (N (L I)) 4),a (v I 5),a (v I 6),a (v I 7),a (v I 8),a (v (L V3) 9),a (v (L TR) 10),a (v (L (L I)) 11),a (v I 12),a (v I 13),a (v I 14),a (v I 15)])))
 (.jump 0 [a (v (L T4) 0),a (v (N (L I)) 1),a (v (L I) 2),a (v (N (L I)) 4),a (v I 5),a (v I 6),a (v I 7),a (v I 8),a (v (L V3) 9),a (v (L TR) 10),a (v (L (L I)) 11),a (v I 12),a (v I 13),a (v I 14),a (v I 15)]))))
 (.ite (v B 1749)
 (.ite (.o2 .bne (v B 1685) (eq (ln (v (L I) 469)) (c 0)))
 (.ret [a (k false)])
 (.ite (eq (v I 12) (c 7))
 (.ite (.o2 .bne (v B 1685) (gt (ln (v (L I) 149)) (c 0)))
 (.ret [a (k false)])
 (.ite (eq (v I 12) (c 10))
 (.ite (.o2 .bne (v B 1685) (eq (ln (v (L I) 469)) (c 0)))
 (.ret [a (k false)])
 (.jump 0 [a (v (L T4) 0),a (v (N (L I)) 1),a (v (L I) 2),a (v (N (L I)) 4),a (v I 5),a (v I 6),a (v I 7),a (v I 8),a (v (L V3) 9),a (v (L TR) 10),a (v (L (L I)) 11),a (v I 12),a (v I 13),a (v I 14),a (v I 15)]))
 (.jump 0 [a (v (L T4) 0),a (v (N (L I)) 1),a (v (L I) 2),a (v (N (L I)) 4),a (v I 5),a (v I 6),a (v I 7),a (v I 8),a (v (L V3) 9),a (v (L TR) 10),a (v (L (L I)) 11),a (v I 12),a (v I 13),a (v I 14),a (v I 15)])))
 (.ite (eq (v I 12) (c 10))
 (.ite (.o2 .bne (v B 1685) (eq (ln (v (L I) 469)) (c 0)))
 (.ret [a (k false)])
 (.jump 0 [a (v (L T4) 0),a (v (N (L I)) 1),a (v (L I) 2),a (v (N (L I)) 4),a (v I 5),a (v I 6),a (v I 7),a (v I 8),a (v (L V3) 9),a (v (L TR) 10),a (v (L (L I)) 11),a (v I 12),a (v I 13),a (v I 14),a (v I 15)]))
 (.jump 0 [a (v (L T4) 0),a (v (N (L I)) 1),a (v (L I) 2),a (v (N (L I)) 4),a (v I 5),a (v I 6),a (v I 7),a (v I 8),a (v (L V3) 9),a (v (L TR) 10),a (v (L (L I)) 11),a (v I 12),a (v I 13),a (v I 14),a (v I 15)]))))
 (.ite (.o2 .bne (v B 1685) (k false))
 (.ret [a (k false)])
 (.ite (eq (v I 12) (c 7))
 (.ite (.o2 .bne (v B 1685) (k false))
 (.ret [a (k false)])
 (.ite (eq (v I 12) (c 10))
 (.ite (.o2 .bne (v B 1685) (k false))
 (.ret [a (k false)])
 (.jump 0 [a (v (L T4) 0),a (v (N (L I)) 1),a (v (L I) 2),a (v (N (L I)) 4),a (v I 5),a (v I 6),a (v I 7),a (v I 8),a (v (L V3) 9),a (v (L TR) 10),a (v (L (L I)) 11),a (v I 12),a (v I 13),a (v I 14),a (v I 15)]))
 (.jump 0 [a (v (L T4) 0),a (v (N (L I)) 1),a (v (L I) 2),a (v (N (L I)) 4),a (v I 5),a (v I 6),a (v I 7),a (v I 8),a (v (L V3) 9),a (v (L TR) 10),a (v (L (L I)) 11),a (v I 12),a (v I 13),a (v I 14),a (v I 15)])))
 (.ite (eq (v I 12) (c 10))
 (.ite (.o2 .bne (v B 1685) (k false))
 (.ret [a (k false)])
 (.jump 0 [a (v (L T4) 0),a (v (N (L I)) 1),a (v (L I) 2),a (v (N (L I)) 4),a (v I 5),a (v I 6),a (v I 7),a (v I 8),a (v (L V3) 9),a (v (L TR) 10),a (v (L (L I)) 11),a (v I 12),a (v I 13),a (v I 14),a (v I 15)]))
 (.jump 0 [a (v (L T4) 0),a (v (N (L I)) 1),a (v (L I) 2),a (v (N (L I)) 4),a (v I 5),a (v I 6),a (v I 7),a (v I 8),a (v (L V3) 9),a (v (L TR) 10),a (v (L (L I)) 11),a (v I 12),a (v I 13),a (v I 14),a (v I 15)]))))))
 (.ite (eq (v I 12) (c 7))
 (.ite (v B 1749)
 (.ite (.o2 .bne (v B 1685) (gt (ln (v (L I) 149)) (c 0)))
 (.ret [a (k false)])
 (.ite (eq (v I 12) (c 10))
 (.ite (.o2 .bne (v B 1685) (eq (ln (v (L I) 469)) (c 0)))
 (.ret [a (k false)])
 (.jump 0 [a (v (L T4) 0),a (v (N (L I)) 1),a (v (L I) 2),a (v (N (L I)) 4),a (v I 5),a (v I 6),a (v I 7),a (v I 8),a (v (L V3) 9),a (v (L TR) 10),a (v (L (L I)) 11),a (v I 12),a (v I 13),a (v I 14),a (v I 15)]))
 (.jump 0 [a (v (L T4) 0),a (v (N (L I)) 1),a (v (L I) 2),a (v (N (L I)) 4),a (v I 5),a (v I 6),a (v I 7),a (v I 8),a (v (L V3) 9),a (v (L TR) 10),a (v (L (L I)) 11),a (v I 12),a (v I 13),a (v I 14),a (v I 15)])))
 (.ite (.o2 .bne (v B 1685) (k false))
 (.ret [a (k false)])
 (.ite (eq (v I 12) (c 10))
 (.ite (.o2 .bne (v B 1685) (k false))
 (.ret [a (k false)])
 (.jump 0 [a (v (L T4) 0),a (v (N (L I)) 1),a (v (L I) 2),a (v (N (L I)) 4),a (v I 5),a (v I 6),a (v I 7),a (v I 8),a (v (L V3) 9),a (v (L TR) 10),a (v (L (L I)) 11),a (v I 12),a (v I 13),a (v I 14),a (v I 15)]))
 (.jump 0 [a (v (L T4) 0),a (v (N (L I)) 1),a (v (L I) 2),a (v (N (L I)) 4),a (v I 5),a (v I 6),a (v I 7),a (v I 8),a (v (L V3) 9),a (v (L TR) 10),a (v (L (L I)) 11),a (v I 12),a (v I 13),a (v I 14),a (v I 15)]))))
 (.ite (eq (v I 12) (c 10))
 (.ite (v B 1749)
 (.ite (.o2 .bne (v B 1685) (eq (ln (v (L I) 469)) (c 0)))
 (.ret [a (k false)])
 (.jump 0 [a (v (L T4) 0),a (v (N (L I)) 1),a (v (L I) 2),a (v (N (L I)) 4),a (v I 5),a (v I 6),a (v I 7),a (v I 8),a (v (L V3) 9),a (v (L TR) 10),a (v (L (L I)) 11),a (v I 12),a (v I 13),a (v I 14),a (v I 15)]))
 (.ite (.o2 .bne (v B 1685) (k false))
 (.ret [a (k false)])
 (.jump 0 [a (v (L T4) 0),a (v (N (L I)) 1),a (v (L I) 2),a (v (N (L I)) 4),a (v I 5),a (v I 6),a (v I 7),a (v I 8),a (v (L V3) 9),a (v (L TR) 10),a (v (L (L I)) 11),a (v I 12),a (v I 13),a (v I 14),a (v I 15)])))
 (.jump 0 [a (v (L T4) 0),a (v (N (L I)) 1),a (v (L I) 2),a (v (N (L I)) 4),a (v I 5),a (v I 6),a (v I 7),a (v I 8),a (v (L V3) 9),a (v (L TR) 10),a (v (L (L I)) 11),a (v I 12),a (v I 13),a (v I 14),a (v I 15)]))))))))))))))))
 (.jump 0 [a (v (L T4) 0),a (v (N (L I)) 1),a (v (L I) 2),a (v (N (L I)) 3),a (v I 4),a (v I 5),a (v I 6),a (add (v I 7) (c 1)),a (v (L V3) 8),a (v (L TR) 9),a (v (L (L I)) 10),a (v I 11),a (v I 12),a (v I 13),a (v I 14)]))
 (.jump 1 [a (v (L T4) 0),a (v (N (L I)) 1),a (v (N (L I)) 3),a (v I 4),a (add (v I 5) (c 1)),a (v (L V3) 8),a (v (L TR) 9),a (v (L (L I)) 10)]))))))))))))
 (.ret [a (k true)]))))))))))
end Go.Proofs.YtifkpliahhodoaaGreat
namespace Go.Proofs.YtifkpliahhodoaaGreat
open Go Go.Sm Go.Sm.Q
set_option maxRecDepth 100000
def trL:List (Nat×Tr):=[
(f_spec_l1In,tr_spec_l1In),
(f_spec_l1One,tr_spec_l1One),
(f_spec_l1Kind,tr_spec_l1Kind),
(f_spec_KindsOf,tr_spec_KindsOf),
(f_spec_l2Is,tr_spec_l2Is),
(f_spec_l2Var,tr_spec_l2Var),
(f_spec_l2Rule,tr_spec_l2Rule),
(f_spec_SystemValid,tr_spec_SystemValid),
(f_spec_l20Facts,tr_spec_l20Facts),
(f_spec_l24One,tr_spec_l24One),
(f_spec_l24Step,tr_spec_l24Step),
(f_spec_TreesValid,tr_spec_TreesValid),
(f_spec_l24Asked,tr_spec_l24Asked),
(f_spec_SizeOf,tr_spec_SizeOf),
(f_spec_FirstState,tr_spec_FirstState),
(f_spec_l3Copy,tr_spec_l3Copy),
(f_spec_l4State,tr_spec_l4State),
(f_spec_l1Held,tr_spec_l1Held),
(f_spec_l1Truth,tr_spec_l1Truth),
(f_spec_l1Do,tr_spec_l1Do),
(f_spec_l1Values,tr_spec_l1Values),
(f_spec_l2Last,tr_spec_l2Last),
(f_spec_l2In,tr_spec_l2In),
(f_spec_l2Use,tr_spec_l2Use),
(f_spec_l2Same,tr_spec_l2Same),
(f_spec_l2Less,tr_spec_l2Less),
(f_spec_l2Put,tr_spec_l2Put),
(f_spec_l2Next,tr_spec_l2Next),
(f_spec_l4Number,tr_spec_l4Number),
(f_spec_l4Steps,tr_spec_l4Steps),
(f_spec_l22Onward,tr_spec_l22Onward),
(f_spec_l20Of,tr_spec_l20Of),
(f_spec_l24Not,tr_spec_l24Not),
(f_spec_l24Both,tr_spec_l24Both),
(f_spec_l4Ahead,tr_spec_l4Ahead),
(f_spec_l24Until,tr_spec_l24Until),
(f_spec_l24Stay,tr_spec_l24Stay),
(f_spec_l24All,tr_spec_l24All),
(f_spec_l24Row,tr_spec_l24Row),
(f_spec_l24Rows,tr_spec_l24Rows),
(f_spec_l4List,tr_spec_l4List),
(f_spec_TreeSets,tr_spec_TreeSets),
(f_impl_in,tr_impl_in),
(f_impl_varOk,tr_impl_varOk),
(f_impl_size,tr_impl_size),
(f_impl_parts,tr_impl_parts),
(f_impl_kindsOf,tr_impl_kindsOf),
(f_impl_kindOf,tr_impl_kindOf),
(f_impl_ruleOk,tr_impl_ruleOk),
(f_impl_SystemValid,tr_impl_SystemValid),
(f_impl_factsOk,tr_impl_factsOk),
(f_impl_treeParts,tr_impl_treeParts),
(f_impl_TreesValid,tr_impl_TreesValid),
(f_impl_askTree,tr_impl_askTree),
(f_impl_stateAt,tr_impl_stateAt),
(f_impl_held,tr_impl_held),
(f_impl_bit,tr_impl_bit),
(f_impl_do,tr_impl_do),
(f_impl_eval,tr_impl_eval),
(f_impl_clone_int,tr_impl_clone_int),
(f_impl_inRange,tr_impl_inRange),
(f_impl_use,tr_impl_use),
(f_cmp_isNaN_int,tr_cmp_isNaN_int),
(f_cmp_Compare_int,tr_cmp_Compare_int),
(f_slices_Compare_Sint_int,tr_slices_Compare_Sint_int),
(f_slices_Reverse_SSint_Sint,tr_slices_Reverse_SSint_Sint),
(f_impl_clone_Sint,tr_impl_clone_Sint),
(f_impl_nextStates,tr_impl_nextStates),
(f_impl_number,tr_impl_number),
(f_impl_nexts,tr_impl_nexts),
(f_impl_followers,tr_impl_followers),
(f_impl_letters,tr_impl_letters),
(f_impl_lettersAll,tr_impl_lettersAll),
(f_impl_some,tr_impl_some),
(f_impl_not,tr_impl_not),
(f_slices_Equal_Sbool_bool,tr_slices_Equal_Sbool_bool),
(f_impl_treeRows,tr_impl_treeRows),
(f_impl_listOf,tr_impl_listOf),
(f_impl_TreeSets,tr_impl_TreeSets),
(f_spec_l40Open,tr_spec_l40Open),
(f_spec_l40Rd_pick,tr_spec_l40Rd_pick),
(f_spec_l40Rd_num,tr_spec_l40Rd_num),
(f_spec_l2VarOf,tr_spec_l2VarOf),
(f_spec_l2Const,tr_spec_l2Const),
(f_spec_l2Cond,tr_spec_l2Cond),
(f_spec_TermsValid,tr_spec_TermsValid),
(f_spec_l1Moved,tr_spec_l1Moved),
(f_spec_Joined,tr_spec_Joined),
(f_spec_l2When,tr_spec_l2When),
(f_spec_l1Number,tr_spec_l1Number),
(f_spec_l1Pick,tr_spec_l1Pick),
(f_spec_l1Terms,tr_spec_l1Terms),
(f_spec_l2Value,tr_spec_l2Value),
(f_spec_l2Rules,tr_spec_l2Rules),
(f_spec_l2System,tr_spec_l2System),
(f_spec_l2Any,tr_spec_l2Any),
(f_spec_l1Any,tr_spec_l1Any),
(f_spec_l20Asked,tr_spec_l20Asked),
(f_spec_l24Draw,tr_spec_l24Draw),
(f_spec_l24Any,tr_spec_l24Any),
(f_spec_l24Ask,tr_spec_l24Ask),
(f_spec_DrawTreeSets,tr_spec_DrawTreeSets),
(f_impl_SizeOf,tr_impl_SizeOf),
(f_laws_wcInts,tr_laws_wcInts),
(f_impl_setOk,tr_impl_setOk),
(f_impl_SetValid,tr_impl_SetValid),
(f_impl_over,tr_impl_over),
(f_impl_NextNumbers,tr_impl_NextNumbers),
(f_impl_marks,tr_impl_marks),
(f_impl_SetBoth,tr_impl_SetBoth),
(f_impl_SetWithout,tr_impl_SetWithout),
(f_laws_wcHas,tr_laws_wcHas),
(f_laws_FnTreeSets,tr_laws_FnTreeSets)]
def haL:List Nat:=[]
def mc:Mc:=⟨fun f=>(trL.find? (·.1==f)).map (·.2),fun f ins=>if haL.contains f then some ins else none⟩
theorem F_spec_l1In:mc.F f_spec_l1In=some tr_spec_l1In:=rfl
theorem F_spec_l1One:mc.F f_spec_l1One=some tr_spec_l1One:=rfl
theorem F_spec_l1Kind:mc.F f_spec_l1Kind=some tr_spec_l1Kind:=rfl
theorem F_spec_KindsOf:mc.F f_spec_KindsOf=some tr_spec_KindsOf:=rfl
theorem F_spec_l2Is:mc.F f_spec_l2Is=some tr_spec_l2Is:=rfl
theorem F_spec_l2Var:mc.F f_spec_l2Var=some tr_spec_l2Var:=rfl
theorem F_spec_l2Rule:mc.F f_spec_l2Rule=some tr_spec_l2Rule:=rfl
theorem F_spec_SystemValid:mc.F f_spec_SystemValid=some tr_spec_SystemValid:=rfl
theorem F_spec_l20Facts:mc.F f_spec_l20Facts=some tr_spec_l20Facts:=rfl
theorem F_spec_l24One:mc.F f_spec_l24One=some tr_spec_l24One:=rfl
theorem F_spec_l24Step:mc.F f_spec_l24Step=some tr_spec_l24Step:=rfl
theorem F_spec_TreesValid:mc.F f_spec_TreesValid=some tr_spec_TreesValid:=rfl
theorem F_spec_l24Asked:mc.F f_spec_l24Asked=some tr_spec_l24Asked:=rfl
theorem F_spec_SizeOf:mc.F f_spec_SizeOf=some tr_spec_SizeOf:=rfl
theorem F_spec_FirstState:mc.F f_spec_FirstState=some tr_spec_FirstState:=rfl
theorem F_spec_l3Copy:mc.F f_spec_l3Copy=some tr_spec_l3Copy:=rfl
theorem F_spec_l4State:mc.F f_spec_l4State=some tr_spec_l4State:=rfl
theorem F_spec_l1Held:mc.F f_spec_l1Held=some tr_spec_l1Held:=rfl
theorem F_spec_l1Truth:mc.F f_spec_l1Truth=some tr_spec_l1Truth:=rfl
theorem F_spec_l1Do:mc.F f_spec_l1Do=some tr_spec_l1Do:=rfl
theorem F_spec_l1Values:mc.F f_spec_l1Values=some tr_spec_l1Values:=rfl
theorem F_spec_l2Last:mc.F f_spec_l2Last=some tr_spec_l2Last:=rfl
theorem F_spec_l2In:mc.F f_spec_l2In=some tr_spec_l2In:=rfl
theorem F_spec_l2Use:mc.F f_spec_l2Use=some tr_spec_l2Use:=rfl
theorem F_spec_l2Same:mc.F f_spec_l2Same=some tr_spec_l2Same:=rfl
theorem F_spec_l2Less:mc.F f_spec_l2Less=some tr_spec_l2Less:=rfl
theorem F_spec_l2Put:mc.F f_spec_l2Put=some tr_spec_l2Put:=rfl
theorem F_spec_l2Next:mc.F f_spec_l2Next=some tr_spec_l2Next:=rfl
theorem F_spec_l4Number:mc.F f_spec_l4Number=some tr_spec_l4Number:=rfl
theorem F_spec_l4Steps:mc.F f_spec_l4Steps=some tr_spec_l4Steps:=rfl
theorem F_spec_l22Onward:mc.F f_spec_l22Onward=some tr_spec_l22Onward:=rfl
theorem F_spec_l20Of:mc.F f_spec_l20Of=some tr_spec_l20Of:=rfl
theorem F_spec_l24Not:mc.F f_spec_l24Not=some tr_spec_l24Not:=rfl
theorem F_spec_l24Both:mc.F f_spec_l24Both=some tr_spec_l24Both:=rfl
theorem F_spec_l4Ahead:mc.F f_spec_l4Ahead=some tr_spec_l4Ahead:=rfl
theorem F_spec_l24Until:mc.F f_spec_l24Until=some tr_spec_l24Until:=rfl
theorem F_spec_l24Stay:mc.F f_spec_l24Stay=some tr_spec_l24Stay:=rfl
theorem F_spec_l24All:mc.F f_spec_l24All=some tr_spec_l24All:=rfl
theorem F_spec_l24Row:mc.F f_spec_l24Row=some tr_spec_l24Row:=rfl
theorem F_spec_l24Rows:mc.F f_spec_l24Rows=some tr_spec_l24Rows:=rfl
theorem F_spec_l4List:mc.F f_spec_l4List=some tr_spec_l4List:=rfl
theorem F_spec_TreeSets:mc.F f_spec_TreeSets=some tr_spec_TreeSets:=rfl
theorem F_impl_in:mc.F f_impl_in=some tr_impl_in:=rfl
theorem F_impl_varOk:mc.F f_impl_varOk=some tr_impl_varOk:=rfl
theorem F_impl_size:mc.F f_impl_size=some tr_impl_size:=rfl
theorem F_impl_parts:mc.F f_impl_parts=some tr_impl_parts:=rfl
theorem F_impl_kindsOf:mc.F f_impl_kindsOf=some tr_impl_kindsOf:=rfl
theorem F_impl_kindOf:mc.F f_impl_kindOf=some tr_impl_kindOf:=rfl
theorem F_impl_ruleOk:mc.F f_impl_ruleOk=some tr_impl_ruleOk:=rfl
theorem F_impl_SystemValid:mc.F f_impl_SystemValid=some tr_impl_SystemValid:=rfl
theorem F_impl_factsOk:mc.F f_impl_factsOk=some tr_impl_factsOk:=rfl
theorem F_impl_treeParts:mc.F f_impl_treeParts=some tr_impl_treeParts:=rfl
theorem F_impl_TreesValid:mc.F f_impl_TreesValid=some tr_impl_TreesValid:=rfl
theorem F_impl_askTree:mc.F f_impl_askTree=some tr_impl_askTree:=rfl
theorem F_impl_stateAt:mc.F f_impl_stateAt=some tr_impl_stateAt:=rfl
theorem F_impl_held:mc.F f_impl_held=some tr_impl_held:=rfl
theorem F_impl_bit:mc.F f_impl_bit=some tr_impl_bit:=rfl
theorem F_impl_do:mc.F f_impl_do=some tr_impl_do:=rfl
theorem F_impl_eval:mc.F f_impl_eval=some tr_impl_eval:=rfl
theorem F_impl_clone_int:mc.F f_impl_clone_int=some tr_impl_clone_int:=rfl
theorem F_impl_inRange:mc.F f_impl_inRange=some tr_impl_inRange:=rfl
theorem F_impl_use:mc.F f_impl_use=some tr_impl_use:=rfl
theorem F_cmp_isNaN_int:mc.F f_cmp_isNaN_int=some tr_cmp_isNaN_int:=rfl
theorem F_cmp_Compare_int:mc.F f_cmp_Compare_int=some tr_cmp_Compare_int:=rfl
theorem F_slices_Compare_Sint_int:mc.F f_slices_Compare_Sint_int=some tr_slices_Compare_Sint_int:=rfl
theorem F_slices_Reverse_SSint_Sint:mc.F f_slices_Reverse_SSint_Sint=some tr_slices_Reverse_SSint_Sint:=rfl
theorem F_impl_clone_Sint:mc.F f_impl_clone_Sint=some tr_impl_clone_Sint:=rfl
theorem F_impl_nextStates:mc.F f_impl_nextStates=some tr_impl_nextStates:=rfl
theorem F_impl_number:mc.F f_impl_number=some tr_impl_number:=rfl
theorem F_impl_nexts:mc.F f_impl_nexts=some tr_impl_nexts:=rfl
theorem F_impl_followers:mc.F f_impl_followers=some tr_impl_followers:=rfl
theorem F_impl_letters:mc.F f_impl_letters=some tr_impl_letters:=rfl
theorem F_impl_lettersAll:mc.F f_impl_lettersAll=some tr_impl_lettersAll:=rfl
theorem F_impl_some:mc.F f_impl_some=some tr_impl_some:=rfl
theorem F_impl_not:mc.F f_impl_not=some tr_impl_not:=rfl
theorem F_slices_Equal_Sbool_bool:mc.F f_slices_Equal_Sbool_bool=some tr_slices_Equal_Sbool_bool:=rfl
theorem F_impl_treeRows:mc.F f_impl_treeRows=some tr_impl_treeRows:=rfl
theorem F_impl_listOf:mc.F f_impl_listOf=some tr_impl_listOf:=rfl
theorem F_impl_TreeSets:mc.F f_impl_TreeSets=some tr_impl_TreeSets:=rfl
theorem F_spec_l40Open:mc.F f_spec_l40Open=some tr_spec_l40Open:=rfl
theorem F_spec_l40Rd_pick:mc.F f_spec_l40Rd_pick=some tr_spec_l40Rd_pick:=rfl
theorem F_spec_l40Rd_num:mc.F f_spec_l40Rd_num=some tr_spec_l40Rd_num:=rfl
theorem F_spec_l2VarOf:mc.F f_spec_l2VarOf=some tr_spec_l2VarOf:=rfl
theorem F_spec_l2Const:mc.F f_spec_l2Const=some tr_spec_l2Const:=rfl
theorem F_spec_l2Cond:mc.F f_spec_l2Cond=some tr_spec_l2Cond:=rfl
theorem F_spec_TermsValid:mc.F f_spec_TermsValid=some tr_spec_TermsValid:=rfl
theorem F_spec_l1Moved:mc.F f_spec_l1Moved=some tr_spec_l1Moved:=rfl
theorem F_spec_Joined:mc.F f_spec_Joined=some tr_spec_Joined:=rfl
theorem F_spec_l2When:mc.F f_spec_l2When=some tr_spec_l2When:=rfl
theorem F_spec_l1Number:mc.F f_spec_l1Number=some tr_spec_l1Number:=rfl
theorem F_spec_l1Pick:mc.F f_spec_l1Pick=some tr_spec_l1Pick:=rfl
theorem F_spec_l1Terms:mc.F f_spec_l1Terms=some tr_spec_l1Terms:=rfl
theorem F_spec_l2Value:mc.F f_spec_l2Value=some tr_spec_l2Value:=rfl
theorem F_spec_l2Rules:mc.F f_spec_l2Rules=some tr_spec_l2Rules:=rfl
theorem F_spec_l2System:mc.F f_spec_l2System=some tr_spec_l2System:=rfl
theorem F_spec_l2Any:mc.F f_spec_l2Any=some tr_spec_l2Any:=rfl
theorem F_spec_l1Any:mc.F f_spec_l1Any=some tr_spec_l1Any:=rfl
theorem F_spec_l20Asked:mc.F f_spec_l20Asked=some tr_spec_l20Asked:=rfl
theorem F_spec_l24Draw:mc.F f_spec_l24Draw=some tr_spec_l24Draw:=rfl
theorem F_spec_l24Any:mc.F f_spec_l24Any=some tr_spec_l24Any:=rfl
theorem F_spec_l24Ask:mc.F f_spec_l24Ask=some tr_spec_l24Ask:=rfl
theorem F_spec_DrawTreeSets:mc.F f_spec_DrawTreeSets=some tr_spec_DrawTreeSets:=rfl
theorem F_impl_SizeOf:mc.F f_impl_SizeOf=some tr_impl_SizeOf:=rfl
theorem F_laws_wcInts:mc.F f_laws_wcInts=some tr_laws_wcInts:=rfl
theorem F_impl_setOk:mc.F f_impl_setOk=some tr_impl_setOk:=rfl
theorem F_impl_SetValid:mc.F f_impl_SetValid=some tr_impl_SetValid:=rfl
theorem F_impl_over:mc.F f_impl_over=some tr_impl_over:=rfl
theorem F_impl_NextNumbers:mc.F f_impl_NextNumbers=some tr_impl_NextNumbers:=rfl
theorem F_impl_marks:mc.F f_impl_marks=some tr_impl_marks:=rfl
theorem F_impl_SetBoth:mc.F f_impl_SetBoth=some tr_impl_SetBoth:=rfl
theorem F_impl_SetWithout:mc.F f_impl_SetWithout=some tr_impl_SetWithout:=rfl
theorem F_laws_wcHas:mc.F f_laws_wcHas=some tr_laws_wcHas:=rfl
theorem F_laws_FnTreeSets:mc.F f_laws_FnTreeSets=some tr_laws_FnTreeSets:=rfl
end Go.Proofs.YtifkpliahhodoaaGreat
