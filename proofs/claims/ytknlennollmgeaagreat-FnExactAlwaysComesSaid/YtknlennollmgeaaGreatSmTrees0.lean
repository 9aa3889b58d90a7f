/- What the functions of the law come to, as trees; printed by a program; no condition. -/
import Derived.Test.YtknlennollmgeaaGreatSmLib4
namespace Go.Proofs.YtknlennollmgeaaGreat
open Go Go.Sm Go.Sm.Q
abbrev f_laws_szVarS:Nat:=37
abbrev f_laws_szTermS:Nat:=34
abbrev f_laws_szIntS:Nat:=138
abbrev f_laws_szTermSS:Nat:=139
abbrev f_laws_szRule:Nat:=94
abbrev f_laws_szRuleS:Nat:=38
abbrev f_laws_szSystem:Nat:=8
abbrev f_laws_toVar:Nat:=102
abbrev f_laws_toVarS:Nat:=44
abbrev f_laws_toTerm:Nat:=92
abbrev f_laws_toTermS:Nat:=35
abbrev f_laws_toIntS:Nat:=11
abbrev f_laws_toTermSS:Nat:=144
abbrev f_laws_toRule:Nat:=103
abbrev f_laws_toRuleS:Nat:=45
abbrev f_laws_toSystem:Nat:=10
abbrev f_spec_l1In:Nat:=62
abbrev f_spec_l2Var:Nat:=68
abbrev f_spec_l1One:Nat:=160
abbrev f_spec_l1Kind:Nat:=161
abbrev f_spec_KindsOf:Nat:=132
abbrev f_spec_l2Is:Nat:=75
abbrev f_spec_l2Rule:Nat:=88
abbrev f_spec_SystemValid:Nat:=31
abbrev f_spec_RulesSet:Nat:=95
abbrev f_spec_l23Asked:Nat:=39
abbrev f_spec_SizeOf:Nat:=59
abbrev f_spec_SetValid:Nat:=22
abbrev f_spec_FirstState:Nat:=80
abbrev f_spec_l3Copy:Nat:=43
abbrev f_spec_l4State:Nat:=100
abbrev f_spec_l1Held:Nat:=188
abbrev f_spec_l1Truth:Nat:=189
abbrev f_spec_l1Do:Nat:=180
abbrev f_spec_l1Values:Nat:=166
abbrev f_spec_l2Last:Nat:=134
abbrev f_spec_l2In:Nat:=143
abbrev f_spec_l2Use:Nat:=101
abbrev f_spec_l2Same:Nat:=171
abbrev f_spec_l2Less:Nat:=172
abbrev f_spec_l2Put:Nat:=142
abbrev f_spec_l2Next:Nat:=99
abbrev f_spec_l4Number:Nat:=79
abbrev f_spec_l4Steps:Nat:=41
abbrev f_spec_l23Usable:Nat:=42
abbrev f_spec_l4Marks:Nat:=89
abbrev f_spec_l2Has:Nat:=78
abbrev f_spec_l5Turned:Nat:=168
abbrev f_spec_l5Steps:Nat:=169
abbrev f_spec_l5Parts:Nat:=140
abbrev f_spec_l23Parts:Nat:=96
abbrev f_spec_l23Target:Nat:=170
abbrev f_spec_l23Inner:Nat:=141
abbrev f_spec_l23Strong:Nat:=97
abbrev f_spec_l23Weak:Nat:=98
abbrev f_spec_l23Cores:Nat:=40
abbrev f_spec_FairCores:Nat:=9
abbrev f_impl_in:Nat:=81
abbrev f_impl_varOk:Nat:=84
abbrev f_impl_size:Nat:=51
abbrev f_impl_parts:Nat:=181
abbrev f_impl_kindsOf:Nat:=167
abbrev f_impl_kindOf:Nat:=137
abbrev f_impl_ruleOk:Nat:=87
abbrev f_impl_SystemValid:Nat:=30
abbrev f_impl_setOk:Nat:=61
abbrev f_impl_rulesOk:Nat:=72
abbrev f_impl_stateAt:Nat:=107
abbrev f_impl_held:Nat:=185
abbrev f_impl_bit:Nat:=186
abbrev f_impl_do:Nat:=178
abbrev f_impl_eval:Nat:=147
abbrev f_impl_clone_int:Nat:=123
abbrev f_impl_inRange:Nat:=148
abbrev f_impl_use:Nat:=106
abbrev f_cmp_isNaN_int:Nat:=190
abbrev f_cmp_Compare_int:Nat:=182
abbrev f_slices_Compare_Sint_int:Nat:=174
abbrev f_slices_Reverse_SSint_Sint:Nat:=192
abbrev f_impl_clone_Sint:Nat:=47
abbrev f_impl_nextStates:Nat:=145
abbrev f_impl_number:Nat:=73
abbrev f_impl_nexts:Nat:=104
abbrev f_math_bits_Mul32:Nat:=176
abbrev f_math_bits_Mul64:Nat:=177
abbrev f_math_bits_Mul:Nat:=146
abbrev f_slices_Repeat_Sint_int:Nat:=105
abbrev f_impl_fairnessOf:Nat:=48
abbrev f_slices_Index_Sint_int:Nat:=150
abbrev f_slices_Min_Sint_int:Nat:=151
abbrev f_impl_tarjan_1:Nat:=149
abbrev f_impl_tarjan:Nat:=108
abbrev f_impl_listOf:Nat:=63
abbrev f_slices_Contains_Sint_int:Nat:=109
abbrev f_impl_fairness_leads:Nat:=112
abbrev f_slices_Clone_Sbool_bool:Nat:=114
abbrev f_impl_fairness_cores:Nat:=49
abbrev f_laws_eqIntS:Nat:=15
abbrev f_laws_eqVar:Nat:=115
abbrev f_laws_eqVarS:Nat:=52
abbrev f_laws_eqTerm:Nat:=93
abbrev f_laws_eqTermS:Nat:=36
abbrev f_laws_eqTermSS:Nat:=153
abbrev f_laws_eqRule:Nat:=116
abbrev f_laws_eqRuleS:Nat:=53
abbrev f_laws_eqSystem:Nat:=14
abbrev f_spec_l14Range:Nat:=58
abbrev f_impl_pasts:Nat:=125
abbrev f_slices_Concat_Sint_int:Nat:=126
abbrev f_impl_reach:Nat:=124
abbrev f_impl_fairness_fairWithin:Nat:=64
abbrev f_impl_truthOf:Nat:=130
abbrev f_impl_where:Nat:=131
abbrev f_impl_goodIn:Nat:=71
abbrev f_impl_first:Nat:=74
abbrev f_impl_AlwaysComes:Nat:=28
abbrev f_spec_StatesWhere:Nat:=77
abbrev f_spec_l4Set:Nat:=165
abbrev f_spec_l4Mix:Nat:=133
abbrev f_spec_SetWithout:Nat:=76
abbrev f_spec_l4Ahead:Nat:=90
abbrev f_spec_l4List:Nat:=91
abbrev f_spec_FairWithin:Nat:=32
abbrev f_spec_AlwaysComes:Nat:=29
abbrev f_laws_FnExactAlwaysComes:Nat:=7
abbrev f_slices_Insert_SSint_Sint:Nat:=175
abbrev f_slices_Grow_Sint_int:Nat:=157
abbrev f_slices_Clone_Sint_int:Nat:=156
def tr_laws_szVarS:Tr:=.ite (lt (sub (v I 1) (ln (v (L V3) 0))) (c 0))
 (.ret [a (c (-1))])
 (.ret [a (sub (v I 1) (ln (v (L V3) 0)))])
def tr_laws_szTermS:Tr:=.ite (lt (sub (v I 1) (ln (v (L T4) 0))) (c 0))
 (.ret [a (c (-1))])
 (.ret [a (sub (v I 1) (ln (v (L T4) 0)))])
def tr_laws_szIntS:Tr:=.ite (lt (sub (v I 1) (ln (v (L I) 0))) (c 0))
 (.ret [a (c (-1))])
 (.ret [a (sub (v I 1) (ln (v (L I) 0)))])
def tr_laws_szTermSS:Tr:=.ite (lt (sub (v I 1) (ln (v (L (L T4)) 0))) (c 0))
 (.ret [a (c (-1))])
 (.loop [a (v (L (L T4)) 0),a (sub (v I 1) (ln (v (L (L T4)) 0))),a (c 0)]
 (.ite (lt (v I 2) (ln (v (L (L T4)) 0)))
 (.guard (le (c 0) (v I 2))
 (.guard (lt (v I 2) (ln (v (L (L T4)) 0)))
 (.call f_laws_szTermS [a (ix (v (L (L T4)) 0) (v I 2)),a (v I 1)] 579
 (.ite (lt (v I 579) (c 0))
 (.ret [a (c (-1))])
 (.jump 0 [a (v (L (L T4)) 0),a (v I 579),a (add (v I 2) (c 1))])))))
 (.ret [a (v I 1)])))
def tr_laws_szRule:Tr:=.call f_laws_szTermS [a (v (L T4) 0),a (v I 3)] 100320
 (.ite (lt (v I 100320) (c 0))
 (.ret [a (c (-1))])
 (.call f_laws_szIntS [a (v (L I) 1),a (v I 100320)] 100768
 (.ite (lt (v I 100768) (c 0))
 (.ret [a (c (-1))])
 (.call f_laws_szTermSS [a (v (L (L T4)) 2),a (v I 100768)] 101216
 (.ite (lt (v I 101216) (c 0))
 (.ret [a (c (-1))])
 (.ret [a (v I 101216)]))))))
def tr_laws_szRuleS:Tr:=.ite (lt (sub (v I 1) (ln (v (L TR) 0))) (c 0))
 (.ret [a (c (-1))])
 (.loop [a (v (L TR) 0),a (sub (v I 1) (ln (v (L TR) 0))),a (c 0)]
 (.ite (lt (v I 2) (ln (v (L TR) 0)))
 (.guard (le (c 0) (v I 2))
 (.guard (lt (v I 2) (ln (v (L TR) 0)))
 (.call f_laws_szRule [a (f (ix (v (L TR) 0) (v I 2))),a (f (s (ix (v (L TR) 0) (v I 2)))),a (s (s (ix (v (L TR) 0) (v I 2)))),a (v I 1)] 579
 (.ite (lt (v I 579) (c 0))
 (.ret [a (c (-1))])
 (.jump 0 [a (v (L TR) 0),a (v I 579),a (add (v I 2) (c 1))])))))
 (.ret [a (v I 1)])))
def tr_laws_szSystem:Tr:=.call f_laws_szVarS [a (v (L V3) 0),a (v I 2)] 100320
 (.ite (lt (v I 100320) (c 0))
 (.ret [a (c (-1))])
 (.call f_laws_szRuleS [a (v (L TR) 1),a (v I 100320)] 100768
 (.ite (lt (v I 100768) (c 0))
 (.ret [a (c (-1))])
 (.ret [a (v I 100768)]))))
def tr_laws_toVar:Tr:=.ret [a (v I 0),a (v I 1),a (v I 2)]
def tr_laws_toVarS:Tr:=.guard (le (c 0) (ln (v (L V3) 0)))
 (.guard (le (ln (v (L V3) 0)) (c 549755813888))
 (.loop [a (v (L V3) 0),a (c 0),a (rep (ln (v (L V3) 0)) (z V3))]
 (.ite (lt (v I 1) (ln (v (L V3) 0)))
 (.guard (le (c 0) (v I 1))
 (.guard (lt (v I 1) (ln (v (L V3) 0)))
 (.call f_laws_toVar [a (f (ix (v (L V3) 0) (v I 1))),a (f (s (ix (v (L V3) 0) (v I 1)))),a (s (s (ix (v (L V3) 0) (v I 1))))] 644
 (.guard (le (c 0) (v I 1))
 (.guard (lt (v I 1) (ln (v (L V3) 2)))
 (.jump 0 [a (v (L V3) 0),a (add (v I 1) (c 1)),a (st (v (L V3) 2) (v I 1) (pr (v I 644) (pr (v I 645) (v I 646))))]))))))
 (.ret [a (v (L V3) 2)]))))
def tr_laws_toTerm:Tr:=.ret [a (v I 0),a (v I 1),a (v I 2),a (v I 3)]
def tr_laws_toTermS:Tr:=.guard (le (c 0) (ln (v (L T4) 0)))
 (.guard (le (ln (v (L T4) 0)) (c 549755813888))
 (.loop [a (v (L T4) 0),a (c 0),a (rep (ln (v (L T4) 0)) (z T4))]
 (.ite (lt (v I 1) (ln (v (L T4) 0)))
 (.guard (le (c 0) (v I 1))
 (.guard (lt (v I 1) (ln (v (L T4) 0)))
 (.call f_laws_toTerm [a (f (ix (v (L T4) 0) (v I 1))),a (f (s (ix (v (L T4) 0) (v I 1)))),a (f (s (s (ix (v (L T4) 0) (v I 1))))),a (s (s (s (ix (v (L T4) 0) (v I 1)))))] 644
 (.guard (le (c 0) (v I 1))
 (.guard (lt (v I 1) (ln (v (L T4) 2)))
 (.jump 0 [a (v (L T4) 0),a (add (v I 1) (c 1)),a (st (v (L T4) 2) (v I 1) (pr (v I 644) (pr (v I 645) (pr (v I 646) (v I 647)))))]))))))
 (.ret [a (v (L T4) 2)]))))
def tr_laws_toIntS:Tr:=.guard (le (c 0) (ln (v (L I) 0)))
 (.guard (le (ln (v (L I) 0)) (c 549755813888))
 (.loop [a (v (L I) 0),a (c 0),a (rep (ln (v (L I) 0)) (z I))]
 (.ite (lt (v I 1) (ln (v (L I) 0)))
 (.guard (le (c 0) (v I 1))
 (.guard (lt (v I 1) (ln (v (L I) 0)))
 (.guard (le (c 0) (v I 1))
 (.guard (lt (v I 1) (ln (v (L I) 2)))
 (.jump 0 [a (v (L I) 0),a (add (v I 1) (c 1)),a (st (v (L I) 2) (v I 1) (ix (v (L I) 0) (v I 1)))])))))
 (.ret [a (v (L I) 2)]))))
def tr_laws_toTermSS:Tr:=.guard (le (c 0) (ln (v (L (L T4)) 0)))
 (.guard (le (ln (v (L (L T4)) 0)) (c 549755813888))
 (.loop [a (v (L (L T4)) 0),a (c 0),a (rep (ln (v (L (L T4)) 0)) (z (L T4)))]
 (.ite (lt (v I 1) (ln (v (L (L T4)) 0)))
 (.guard (le (c 0) (v I 1))
 (.guard (lt (v I 1) (ln (v (L (L T4)) 0)))
 (.call f_laws_toTermS [a (ix (v (L (L T4)) 0) (v I 1))] 644
 (.guard (le (c 0) (v I 1))
 (.guard (lt (v I 1) (ln (v (L (L T4)) 2)))
 (.jump 0 [a (v (L (L T4)) 0),a (add (v I 1) (c 1)),a (st (v (L (L T4)) 2) (v I 1) (v (L T4) 644))]))))))
 (.ret [a (v (L (L T4)) 2)]))))
def tr_laws_toRule:Tr:=.call f_laws_toTermS [a (v (L T4) 0)] 100320
 (.call f_laws_toIntS [a (v (L I) 1)] 100640
 (.call f_laws_toTermSS [a (v (L (L T4)) 2)] 100960
 (.ret [a (v (L T4) 100320),a (v (L I) 100640),a (v (L (L T4)) 100960)])))
def tr_laws_toRuleS:Tr:=.guard (le (c 0) (ln (v (L TR) 0)))
 (.guard (le (ln (v (L TR) 0)) (c 549755813888))
 (.loop [a (v (L TR) 0),a (c 0),a (rep (ln (v (L TR) 0)) (z TR))]
 (.ite (lt (v I 1) (ln (v (L TR) 0)))
 (.guard (le (c 0) (v I 1))
 (.guard (lt (v I 1) (ln (v (L TR) 0)))
 (.call f_laws_toRule [a (f (ix (v (L TR) 0) (v I 1))),a (f (s (ix (v (L TR) 0) (v I 1)))),a (s (s (ix (v (L TR) 0) (v I 1))))] 644
 (.guard (le (c 0) (v I 1))
 (.guard (lt (v I 1) (ln (v (L TR) 2)))
 (.jump 0 [a (v (L TR) 0),a (add (v I 1) (c 1)),a (st (v (L TR) 2) (v I 1) (pr (v (L T4) 644) (pr (v (L I) 645) (v (L (L T4)) 646))))]))))))
 (.ret [a (v (L TR) 2)]))))
def tr_laws_toSystem:Tr:=.call f_laws_toVarS [a (v (L V3) 0)] 100320
 (.call f_laws_toRuleS [a (v (L TR) 1)] 100640
 (.ret [a (v (L V3) 100320),a (v (L TR) 100640)]))
def tr_spec_l1In:Tr:=.ite (ge (v I 0) (v I 1))
 (.ret [a (le (v I 0) (v I 2))])
 (.ret [a (k false)])
def tr_spec_l2Var:Tr:=.call f_spec_l1In [a (v I 0),a (c (-9999)),a (c 9999)] 100256
 (.ite (v B 100256)
 (.call f_spec_l1In [a (v I 1),a (v I 0),a (c 9999)] 100640
 (.ite (v B 100640)
 (.ite (lt (sub (v I 1) (v I 0)) (c 20))
 (.call f_spec_l1In [a (v I 2),a (v I 0),a (v I 1)] 101728
 (.ret [a (v B 101728)]))
 (.ret [a (k false)]))
 (.ret [a (k false)])))
 (.ret [a (k false)]))
def tr_spec_l1One:Tr:=.ret [a (eq (v I 0) (c 7))]
def tr_spec_l1Kind:Tr:=.join
 (.ite (eq (v I 0) (c 0))
 (.call f_spec_l1In [a (v I 1),a (c (-9999)),a (c 9999)] 100512
 (.ite (v B 100512)
 (.ite (eq (v I 2) (c 0))
 (.ite (eq (v I 3) (c 0))
 (.ret [a (c 1)])
 (.jump 0 [a (v (L I) 4),a (v I 5),a (v I 0),a (v I 1),a (v I 2),a (v I 3)]))
 (.jump 0 [a (v (L I) 4),a (v I 5),a (v I 0),a (v I 1),a (v I 2),a (v I 3)]))
 (.jump 0 [a (v (L I) 4),a (v I 5),a (v I 0),a (v I 1),a (v I 2),a (v I 3)])))
 (.jump 0 [a (v (L I) 4),a (v I 5),a (v I 0),a (v I 1),a (v I 2),a (v I 3)]))
 (.join
 (.ite (eq (v I 2) (c 1))
 (.call f_spec_l1In [a (v I 3),a (c 0),a (sub (v I 1) (c 1))] 519
 (.ite (v B 519)
 (.ite (eq (v I 4) (c 0))
 (.ite (eq (v I 5) (c 0))
 (.ret [a (c 1)])
 (.jump 0 [a (v (L I) 0),a (v I 2),a (v I 3),a (v I 4),a (v I 5)]))
 (.jump 0 [a (v (L I) 0),a (v I 2),a (v I 3),a (v I 4),a (v I 5)]))
 (.jump 0 [a (v (L I) 0),a (v I 2),a (v I 3),a (v I 4),a (v I 5)])))
 (.jump 0 [a (v (L I) 0),a (v I 2),a (v I 3),a (v I 4),a (v I 5)]))
 (.call f_spec_l1In [a (v I 1),a (c 2),a (c 9)] 134
 (.ite (nt (v B 134))
 (.ret [a (c 0)])
 (.ite (ne (v I 2) (c 0))
 (.ret [a (c 0)])
 (.call f_spec_l1In [a (v I 3),a (c 0),a (sub (ln (v (L I) 0)) (c 1))] 966
 (.ite (nt (v B 966))
 (.ret [a (c 0)])
 (.call f_spec_l1In [a (v I 4),a (c 0),a (sub (ln (v (L I) 0)) (c 1))] 1542
 (.ite (nt (v B 1542))
 (.ret [a (c 0)])
 (.join
 (.ite (ge (v I 1) (c 7))
 (.jump 0 [a (v (L I) 0),a (c 2),a (v I 1),a (v I 2),a (v I 3),a (v I 4)])
 (.jump 0 [a (v (L I) 0),a (c 1),a (v I 1),a (v I 2),a (v I 3),a (v I 4)]))
 (.join
 (.guard (le (c 0) (v I 4))
 (.guard (lt (v I 4) (ln (v (L I) 0)))
 (.ite (ne (ix (v (L I) 0) (v I 4)) (v I 1))
 (.ret [a (c 0)])
 (.guard (le (c 0) (v I 5))
 (.guard (lt (v I 5) (ln (v (L I) 0)))
 (.ite (ne (ix (v (L I) 0) (v I 5)) (v I 1))
 (.ret [a (c 0)])
 (.call f_spec_l1One [a (v I 2)] 1223
 (.ite (v B 1223)
 (.ite (ne (v I 5) (v I 4))
 (.ret [a (c 0)])
 (.jump 0 [a (v I 2),a (v I 3),a (v I 4),a (v I 5)]))
 (.jump 0 [a (v I 2),a (v I 3),a (v I 4),a (v I 5)])))))))))
 (.ite (ge (v I 0) (c 5))
 (.ret [a (c 2)])
 (.ret [a (c 1)]))))))))))))
def tr_spec_KindsOf:Tr:=.call f_spec_l1In [a (v I 1),a (c 0),a (c 5)] 100128
 (.ite (nt (v B 100128))
 (.ret [a (nl I)])
 (.call f_spec_l1In [a (ln (v (L T4) 0)),a (c 1),a (c 40)] 100448
 (.ite (nt (v B 100448))
 (.ret [a (nl I)])
 (.loop [a (v (L T4) 0),a (v I 1),a (c 0),a (nl I)]
 (.ite (lt (v I 2) (ln (v (L T4) 0)))
 (.guard (le (c 0) (v I 2))
 (.guard (lt (v I 2) (ln (v (L T4) 0)))
 (.call f_spec_l1Kind [a (f (ix (v (L T4) 0) (v I 2))),a (f (s (ix (v (L T4) 0) (v I 2)))),a (f (s (s (ix (v (L T4) 0) (v I 2))))),a (s (s (s (ix (v (L T4) 0) (v I 2))))),a (v (L I) 3),a (v I 1)] 645
 (.ite (eq (v I 645) (c 0))
 (.ret [a (nl I)])
 (.guard (le (ln (v (L I) 3)) (c 549755813888))
 (.guard (le (ln (one (v I 645))) (c 549755813888))
 (.jump 0 [a (v (L T4) 0),a (v I 1),a (add (v I 2) (c 1)),a (app (v (L I) 3) (one (v I 645)))])))))))
 (.ret [a (v (L I) 3)]))))))
def tr_spec_l2Is:Tr:=.call f_spec_KindsOf [a (v (L T4) 0),a (v I 1)] 100192
 (.ite (gt (ln (v (L I) 100192)) (c 0))
 (.guard (le (c 0) (sub (ln (v (L I) 100192)) (c 1)))
 (.guard (lt (sub (ln (v (L I) 100192)) (c 1)) (ln (v (L I) 100192)))
 (.ret [a (eq (ix (v (L I) 100192) (sub (ln (v (L I) 100192)) (c 1))) (v I 2))])))
 (.ret [a (k false)]))
def tr_spec_l2Rule:Tr:=.call f_spec_l2Is [a (v (L T4) 0),a (v I 3),a (c 2)] 100320
 (.ite (nt (v B 100320))
 (.ret [a (k false)])
 (.ite (ne (ln (v (L I) 1)) (ln (v (L (L T4)) 2)))
 (.ret [a (k false)])
 (.ite (gt (ln (v (L I) 1)) (v I 3))
 (.ret [a (k false)])
 (.loop [a (v I 3),a (c 0),a (v (L T4) 0),a (v (L I) 1),a (v (L (L T4)) 2)]
 (.ite (lt (v I 1) (ln (v (L I) 3)))
 (.join
 (.guard (le (c 0) (v I 1))
 (.guard (lt (v I 1) (ln (v (L I) 3)))
 (.call f_spec_l1In [a (ix (v (L I) 3) (v I 1)),a (c 0),a (sub (v I 0) (c 1))] 774
 (.ite (nt (v B 774))
 (.ret [a (k false)])
 (.ite (gt (v I 1) (c 0))
 (.guard (le (c 0) (v I 1))
 (.guard (lt (v I 1) (ln (v (L I) 3)))
 (.guard (le (c 0) (sub (v I 1) (c 1)))
 (.guard (lt (sub (v I 1) (c 1)) (ln (v (L I) 3)))
 (.ite (le (ix (v (L I) 3) (v I 1)) (ix (v (L I) 3) (sub (v I 1) (c 1))))
 (.ret [a (k false)])
 (.guard (le (c 0) (v I 1))
 (.guard (lt (v I 1) (ln (v (L (L T4)) 4)))
 (.call f_spec_l2Is [a (ix (v (L (L T4)) 4) (v I 1)),a (v I 0),a (c 1)] 2502
 (.ite (nt (v B 2502))
 (.ret [a (k false)])
 (.jump 0 [a (v I 0),a (v I 1),a (v (L T4) 2),a (v (L I) 3),a (v (L (L T4)) 4)]))))))))))
 (.guard (le (c 0) (v I 1))
 (.guard (lt (v I 1) (ln (v (L (L T4)) 4)))
 (.call f_spec_l2Is [a (ix (v (L (L T4)) 4) (v I 1)),a (v I 0),a (c 1)] 2502
 (.ite (nt (v B 2502))
 (.ret [a (k false)])
 (.jump 0 [a (v I 0),a (v I 1),a (v (L T4) 2),a (v (L I) 3),a (v (L (L T4)) 4)]))))))))))
 (.jump 0 [a (v I 0),a (add (v I 1) (c 1)),a (v (L T4) 2),a (v (L I) 3),a (v (L (L T4)) 4)]))
 (.ret [a (k true)]))))))
def tr_spec_SystemValid:Tr:=.call f_spec_l1In [a (ln (v (L V3) 0)),a (c 1),a (c 5)] 100320
 (.ite (nt (v B 100320))
 (.ret [a (k false)])
 (.ite (gt (ln (v (L TR) 1)) (c 8))
 (.ret [a (k false)])
 (.loop [a (c 1),a (c 0),a (v (L V3) 0),a (v (L TR) 1)]
 (.ite (lt (v I 1) (ln (v (L V3) 2)))
 (.guard (le (c 0) (v I 1))
 (.guard (lt (v I 1) (ln (v (L V3) 2)))
 (.call f_spec_l2Var [a (f (ix (v (L V3) 2) (v I 1))),a (f (s (ix (v (L V3) 2) (v I 1)))),a (s (s (ix (v (L V3) 2) (v I 1))))] 645
 (.ite (nt (v B 645))
 (.ret [a (k false)])
 (.guard (le (c 0) (v I 1))
 (.guard (lt (v I 1) (ln (v (L V3) 2)))
 (.guard (le (c 0) (v I 1))
 (.guard (lt (v I 1) (ln (v (L V3) 2)))
 (.jump 0 [a (mul (v I 0) (add (sub (f (s (ix (v (L V3) 2) (v I 1)))) (f (ix (v (L V3) 2) (v I 1)))) (c 1))),a (add (v I 1) (c 1)),a (v (L V3) 2),a (v (L TR) 3)])))))))))
 (.loop [a (v I 0),a (c 0),a (v (L V3) 2),a (v (L TR) 3)]
 (.ite (lt (v I 1) (ln (v (L TR) 3)))
 (.guard (le (c 0) (v I 1))
 (.guard (lt (v I 1) (ln (v (L TR) 3)))
 (.call f_spec_l2Rule [a (f (ix (v (L TR) 3) (v I 1))),a (f (s (ix (v (L TR) 3) (v I 1)))),a (s (s (ix (v (L TR) 3) (v I 1)))),a (ln (v (L V3) 2))] 837
 (.ite (nt (v B 837))
 (.ret [a (k false)])
 (.jump 0 [a (v I 0),a (add (v I 1) (c 1)),a (v (L V3) 2),a (v (L TR) 3)])))))
 (.ret [a (le (v I 0) (c 400))])))))))
def tr_spec_RulesSet:Tr:=.loop [a (v (L I) 2),a (c 0),a (v (L V3) 0),a (v (L TR) 1)]
 (.ite (lt (v I 1) (ln (v (L I) 0)))
 (.join
 (.guard (le (c 0) (v I 1))
 (.guard (lt (v I 1) (ln (v (L I) 0)))
 (.call f_spec_l1In [a (ix (v (L I) 0) (v I 1)),a (c 0),a (sub (ln (v (L TR) 3)) (c 1))] 773
 (.ite (nt (v B 773))
 (.ret [a (k false)])
 (.ite (gt (v I 1) (c 0))
 (.guard (le (c 0) (v I 1))
 (.guard (lt (v I 1) (ln (v (L I) 0)))
 (.guard (le (c 0) (sub (v I 1) (c 1)))
 (.guard (lt (sub (v I 1) (c 1)) (ln (v (L I) 0)))
 (.ite (le (ix (v (L I) 0) (v I 1)) (ix (v (L I) 0) (sub (v I 1) (c 1))))
 (.ret [a (k false)])
 (.jump 0 [a (v (L I) 0),a (v I 1),a (v (L V3) 2),a (v (L TR) 3)]))))))
 (.jump 0 [a (v (L I) 0),a (v I 1),a (v (L V3) 2),a (v (L TR) 3)]))))))
 (.jump 0 [a (v (L I) 0),a (add (v I 1) (c 1)),a (v (L V3) 2),a (v (L TR) 3)]))
 (.call f_spec_SystemValid [a (v (L V3) 2),a (v (L TR) 3)] 325
 (.ret [a (v B 325)])))
def tr_spec_l23Asked:Tr:=.call f_spec_RulesSet [a (v (L V3) 0),a (v (L TR) 1),a (v (L I) 2)] 100256
 (.ite (v B 100256)
 (.call f_spec_RulesSet [a (v (L V3) 0),a (v (L TR) 1),a (v (L I) 3)] 100512
 (.ret [a (v B 100512)]))
 (.ret [a (k false)]))
def tr_spec_SizeOf:Tr:=.call f_spec_SystemValid [a (v (L V3) 0),a (v (L TR) 1)] 100192
 (.ite (nt (v B 100192))
 (.ret [a (c 0)])
 (.loop [a (c 1),a (c 0),a (v (L V3) 0),a (v (L TR) 1)]
 (.ite (lt (v I 1) (ln (v (L V3) 2)))
 (.guard (le (c 0) (v I 1))
 (.guard (lt (v I 1) (ln (v (L V3) 2)))
 (.guard (le (c 0) (v I 1))
 (.guard (lt (v I 1) (ln (v (L V3) 2)))
 (.jump 0 [a (mul (v I 0) (add (sub (f (s (ix (v (L V3) 2) (v I 1)))) (f (ix (v (L V3) 2) (v I 1)))) (c 1))),a (add (v I 1) (c 1)),a (v (L V3) 2),a (v (L TR) 3)])))))
 (.ret [a (v I 0)]))))
def tr_spec_SetValid:Tr:=.call f_spec_SizeOf [a (v (L V3) 0),a (v (L TR) 1)] 100192
 (.loop [a (v (L I) 2),a (v I 100192),a (c 0)]
 (.ite (lt (v I 2) (ln (v (L I) 0)))
 (.join
 (.guard (le (c 0) (v I 2))
 (.guard (lt (v I 2) (ln (v (L I) 0)))
 (.call f_spec_l1In [a (ix (v (L I) 0) (v I 2)),a (c 0),a (sub (v I 1) (c 1))] 643
 (.ite (nt (v B 643))
 (.ret [a (k false)])
 (.ite (gt (v I 2) (c 0))
 (.guard (le (c 0) (v I 2))
 (.guard (lt (v I 2) (ln (v (L I) 0)))
 (.guard (le (c 0) (sub (v I 2) (c 1)))
 (.guard (lt (sub (v I 2) (c 1)) (ln (v (L I) 0)))
 (.ite (le (ix (v (L I) 0) (v I 2)) (ix (v (L I) 0) (sub (v I 2) (c 1))))
 (.ret [a (k false)])
 (.jump 0 [a (v (L I) 0),a (v I 1),a (v I 2)]))))))
 (.jump 0 [a (v (L I) 0),a (v I 1),a (v I 2)]))))))
 (.jump 0 [a (v (L I) 0),a (v I 1),a (add (v I 2) (c 1))]))
 (.ret [a (gt (v I 1) (c 0))])))
def tr_spec_FirstState:Tr:=.join
 (.loop [a (c 0),a (v (L V3) 0),a (v (L TR) 1),a (nl I)]
 (.ite (lt (v I 0) (ln (v (L V3) 1)))
 (.call f_spec_SystemValid [a (v (L V3) 1),a (v (L TR) 2)] 454
 (.ite (v B 454)
 (.guard (le (c 0) (v I 0))
 (.guard (lt (v I 0) (ln (v (L V3) 1)))
 (.guard (le (ln (v (L I) 3)) (c 549755813888))
 (.guard (le (ln (one (s (s (ix (v (L V3) 1) (v I 0)))))) (c 549755813888))
 (.jump 0 [a (add (v I 0) (c 1)),a (v (L V3) 1),a (v (L TR) 2),a (app (v (L I) 3) (one (s (s (ix (v (L V3) 1) (v I 0))))))])))))
 (.jump 1 [a (v (L I) 3)])))
 (.jump 1 [a (v (L I) 3)])))
 (.ret [a (v (L I) 0)])
def tr_spec_l3Copy:Tr:=.loop [a (v (L I) 0),a (c 0),a (nl I)]
 (.ite (lt (v I 1) (ln (v (L I) 0)))
 (.guard (le (c 0) (v I 1))
 (.guard (lt (v I 1) (ln (v (L I) 0)))
 (.guard (le (ln (v (L I) 2)) (c 549755813888))
 (.guard (le (ln (one (ix (v (L I) 0) (v I 1)))) (c 549755813888))
 (.jump 0 [a (v (L I) 0),a (add (v I 1) (c 1)),a (app (v (L I) 2) (one (ix (v (L I) 0) (v I 1))))])))))
 (.ret [a (v (L I) 2)]))
end Go.Proofs.YtknlennollmgeaaGreat
namespace Go.Proofs.YtknlennollmgeaaGreat
open Go Go.Sm Go.Sm.Q
def tr_spec_l4State:Tr:=.call f_spec_FirstState [a (v (L V3) 0),a (v (L TR) 1)] 100192
 (.call f_spec_l3Copy [a (v (L I) 100192)] 100256
 (.loop [a (v I 2),a (sub (ln (v (L V3) 0)) (c 1)),a (v (L V3) 0),a (v (L TR) 1),a (v (L I) 100256)]
 (.ite (ge (v I 1) (c 0))
 (.guard (le (c 0) (v I 1))
 (.guard (lt (v I 1) (ln (v (L V3) 2)))
 (.guard (le (c 0) (v I 1))
 (.guard (lt (v I 1) (ln (v (L V3) 2)))
 (.guard (le (c 0) (v I 1))
 (.guard (lt (v I 1) (ln (v (L V3) 2)))
 (.guard (ne (add (sub (f (s (ix (v (L V3) 2) (v I 1)))) (f (ix (v (L V3) 2) (v I 1)))) (c 1)) (c 0))
 (.guard (le (c 0) (v I 1))
 (.guard (lt (v I 1) (ln (v (L I) 4)))
 (.guard (ne (add (sub (f (s (ix (v (L V3) 2) (v I 1)))) (f (ix (v (L V3) 2) (v I 1)))) (c 1)) (c 0))
 (.jump 0 [a (quo (v I 0) (add (sub (f (s (ix (v (L V3) 2) (v I 1)))) (f (ix (v (L V3) 2) (v I 1)))) (c 1))),a (sub (v I 1) (c 1)),a (v (L V3) 2),a (v (L TR) 3),a (st (v (L I) 4) (v I 1) (add (f (ix (v (L V3) 2) (v I 1))) (rem (v I 0) (add (sub (f (s (ix (v (L V3) 2) (v I 1)))) (f (ix (v (L V3) 2) (v I 1)))) (c 1)))))])))))))))))
 (.ret [a (v (L I) 4)]))))
def tr_spec_l1Held:Tr:=.ite (gt (v I 0) (c 9999))
 (.ret [a (c 9999)])
 (.ite (lt (v I 0) (c (-9999)))
 (.ret [a (c (-9999))])
 (.ret [a (v I 0)]))
def tr_spec_l1Truth:Tr:=.ite (v B 0)
 (.ret [a (c 1)])
 (.ret [a (c 0)])
def tr_spec_l1Do:Tr:=.ite (eq (v I 0) (c 2))
 (.call f_spec_l1Held [a (add (v I 1) (v I 2))] 100384
 (.ret [a (v I 100384)]))
 (.ite (eq (v I 0) (c 3))
 (.call f_spec_l1Held [a (sub (v I 1) (v I 2))] 100512
 (.ret [a (v I 100512)]))
 (.ite (eq (v I 0) (c 4))
 (.call f_spec_l1Held [a (mul (v I 1) (v I 2))] 100640
 (.ret [a (v I 100640)]))
 (.ite (eq (v I 0) (c 5))
 (.call f_spec_l1Truth [a (lt (v I 1) (v I 2))] 100768
 (.ret [a (v I 100768)]))
 (.ite (eq (v I 0) (c 6))
 (.call f_spec_l1Truth [a (eq (v I 1) (v I 2))] 100896
 (.ret [a (v I 100896)]))
 (.ite (eq (v I 0) (c 7))
 (.ret [a (sub (c 1) (v I 1))])
 (.ite (eq (v I 0) (c 8))
 (.ret [a (mul (v I 1) (v I 2))])
 (.call f_spec_l1Truth [a (gt (add (v I 1) (v I 2)) (c 0))] 101216
 (.ret [a (v I 101216)]))))))))
def tr_spec_l1Values:Tr:=.loop [a (v (L T4) 0),a (v (L I) 1),a (c 0),a (nl I)]
 (.ite (lt (v I 2) (ln (v (L T4) 0)))
 (.join
 (.guard (le (c 0) (v I 2))
 (.guard (lt (v I 2) (ln (v (L T4) 0)))
 (.ite (eq (f (ix (v (L T4) 0) (v I 2))) (c 0))
 (.guard (le (ln (v (L I) 3)) (c 549755813888))
 (.guard (le (ln (one (f (s (ix (v (L T4) 0) (v I 2)))))) (c 549755813888))
 (.jump 0 [a (v (L T4) 0),a (v (L I) 1),a (v I 2),a (app (v (L I) 3) (one (f (s (ix (v (L T4) 0) (v I 2))))))])))
 (.ite (eq (f (ix (v (L T4) 0) (v I 2))) (c 1))
 (.guard (le (c 0) (f (s (ix (v (L T4) 0) (v I 2)))))
 (.guard (lt (f (s (ix (v (L T4) 0) (v I 2)))) (ln (v (L I) 1)))
 (.guard (le (ln (v (L I) 3)) (c 549755813888))
 (.guard (le (ln (one (ix (v (L I) 1) (f (s (ix (v (L T4) 0) (v I 2))))))) (c 549755813888))
 (.jump 0 [a (v (L T4) 0),a (v (L I) 1),a (v I 2),a (app (v (L I) 3) (one (ix (v (L I) 1) (f (s (ix (v (L T4) 0) (v I 2)))))))])))))
 (.guard (le (c 0) (f (s (s (ix (v (L T4) 0) (v I 2))))))
 (.guard (lt (f (s (s (ix (v (L T4) 0) (v I 2))))) (ln (v (L I) 3)))
 (.guard (le (c 0) (s (s (s (ix (v (L T4) 0) (v I 2))))))
 (.guard (lt (s (s (s (ix (v (L T4) 0) (v I 2))))) (ln (v (L I) 3)))
 (.call f_spec_l1Do [a (f (ix (v (L T4) 0) (v I 2))),a (ix (v (L I) 3) (f (s (s (ix (v (L T4) 0) (v I 2)))))),a (ix (v (L I) 3) (s (s (s (ix (v (L T4) 0) (v I 2))))))] 1861
 (.guard (le (ln (v (L I) 3)) (c 549755813888))
 (.guard (le (ln (one (v I 1861))) (c 549755813888))
 (.jump 0 [a (v (L T4) 0),a (v (L I) 1),a (v I 2),a (app (v (L I) 3) (one (v I 1861)))]))))))))))))
 (.jump 0 [a (v (L T4) 0),a (v (L I) 1),a (add (v I 2) (c 1)),a (v (L I) 3)]))
 (.ret [a (v (L I) 3)]))
def tr_spec_l2Last:Tr:=.call f_spec_l1Values [a (v (L T4) 0),a (v (L I) 1)] 100192
 (.guard (le (c 0) (sub (ln (v (L T4) 0)) (c 1)))
 (.guard (lt (sub (ln (v (L T4) 0)) (c 1)) (ln (v (L I) 100192)))
 (.ret [a (ix (v (L I) 100192) (sub (ln (v (L T4) 0)) (c 1)))])))
def tr_spec_l2In:Tr:=.ite (ne (ln (v (L I) 2)) (ln (v (L V3) 0)))
 (.ret [a (k false)])
 (.loop [a (v (L I) 2),a (c 0),a (v (L V3) 0),a (v (L TR) 1)]
 (.ite (lt (v I 1) (ln (v (L I) 0)))
 (.guard (le (c 0) (v I 1))
 (.guard (lt (v I 1) (ln (v (L I) 0)))
 (.guard (le (c 0) (v I 1))
 (.guard (lt (v I 1) (ln (v (L V3) 2)))
 (.guard (le (c 0) (v I 1))
 (.guard (lt (v I 1) (ln (v (L V3) 2)))
 (.call f_spec_l1In [a (ix (v (L I) 0) (v I 1)),a (f (ix (v (L V3) 2) (v I 1))),a (f (s (ix (v (L V3) 2) (v I 1))))] 1285
 (.ite (nt (v B 1285))
 (.ret [a (k false)])
 (.jump 0 [a (v (L I) 0),a (add (v I 1) (c 1)),a (v (L V3) 2),a (v (L TR) 3)])))))))))
 (.ret [a (k true)])))
def tr_spec_l2Use:Tr:=.guard (le (c 0) (v I 3))
 (.guard (lt (v I 3) (ln (v (L TR) 1)))
 (.call f_spec_l2Last [a (f (ix (v (L TR) 1) (v I 3))),a (v (L I) 2)] 100768
 (.ite (eq (v I 100768) (c 0))
 (.ret [a (nl I)])
 (.loop [a (v (L I) 2),a (c 0),a (v (L V3) 0),a (v (L TR) 1),a (f (ix (v (L TR) 1) (v I 3))),a (f (s (ix (v (L TR) 1) (v I 3)))),a (s (s (ix (v (L TR) 1) (v I 3)))),a (nl I)]
 (.ite (lt (v I 1) (ln (v (L I) 0)))
 (.guard (le (c 0) (v I 1))
 (.guard (lt (v I 1) (ln (v (L I) 0)))
 (.guard (le (ln (v (L I) 7)) (c 549755813888))
 (.guard (le (ln (one (ix (v (L I) 0) (v I 1)))) (c 549755813888))
 (.jump 0 [a (v (L I) 0),a (add (v I 1) (c 1)),a (v (L V3) 2),a (v (L TR) 3),a (v (L T4) 4),a (v (L I) 5),a (v (L (L T4)) 6),a (app (v (L I) 7) (one (ix (v (L I) 0) (v I 1))))])))))
 (.loop [a (v (L I) 0),a (c 0),a (v (L V3) 2),a (v (L TR) 3),a (v (L T4) 4),a (v (L I) 5),a (v (L (L T4)) 6),a (v (L I) 7)]
 (.ite (lt (v I 1) (ln (v (L I) 5)))
 (.guard (le (c 0) (v I 1))
 (.guard (lt (v I 1) (ln (v (L I) 5)))
 (.guard (le (c 0) (v I 1))
 (.guard (lt (v I 1) (ln (v (L (L T4)) 6)))
 (.call f_spec_l2Last [a (ix (v (L (L T4)) 6) (v I 1)),a (v (L I) 0)] 1099
 (.guard (le (c 0) (ix (v (L I) 5) (v I 1)))
 (.guard (lt (ix (v (L I) 5) (v I 1)) (ln (v (L I) 7)))
 (.jump 0 [a (v (L I) 0),a (add (v I 1) (c 1)),a (v (L V3) 2),a (v (L TR) 3),a (v (L T4) 4),a (v (L I) 5),a (v (L (L T4)) 6),a (st (v (L I) 7) (ix (v (L I) 5) (v I 1)) (v I 1099))]))))))))
 (.call f_spec_l2In [a (v (L V3) 2),a (v (L TR) 3),a (v (L I) 7)] 459
 (.ite (nt (v B 459))
 (.ret [a (nl I)])
 (.ret [a (v (L I) 7)]))))))))))
def tr_spec_l2Same:Tr:=.ite (ne (ln (v (L I) 0)) (ln (v (L I) 1)))
 (.ret [a (k false)])
 (.loop [a (v (L I) 0),a (v (L I) 1),a (c 0)]
 (.ite (lt (v I 2) (ln (v (L I) 0)))
 (.guard (le (c 0) (v I 2))
 (.guard (lt (v I 2) (ln (v (L I) 0)))
 (.guard (le (c 0) (v I 2))
 (.guard (lt (v I 2) (ln (v (L I) 1)))
 (.ite (ne (ix (v (L I) 0) (v I 2)) (ix (v (L I) 1) (v I 2)))
 (.ret [a (k false)])
 (.jump 0 [a (v (L I) 0),a (v (L I) 1),a (add (v I 2) (c 1))]))))))
 (.ret [a (k true)])))
def tr_spec_l2Less:Tr:=.join
 (.loop [a (v (L I) 0),a (v (L I) 1),a (c 0)]
 (.ite (lt (v I 2) (ln (v (L I) 0)))
 (.ite (lt (v I 2) (ln (v (L I) 1)))
 (.guard (le (c 0) (v I 2))
 (.guard (lt (v I 2) (ln (v (L I) 0)))
 (.guard (le (c 0) (v I 2))
 (.guard (lt (v I 2) (ln (v (L I) 1)))
 (.ite (ne (ix (v (L I) 0) (v I 2)) (ix (v (L I) 1) (v I 2)))
 (.guard (le (c 0) (v I 2))
 (.guard (lt (v I 2) (ln (v (L I) 0)))
 (.guard (le (c 0) (v I 2))
 (.guard (lt (v I 2) (ln (v (L I) 1)))
 (.ret [a (lt (ix (v (L I) 0) (v I 2)) (ix (v (L I) 1) (v I 2)))])))))
 (.jump 0 [a (v (L I) 0),a (v (L I) 1),a (add (v I 2) (c 1))]))))))
 (.jump 1 [a (v (L I) 0),a (v (L I) 1)]))
 (.jump 1 [a (v (L I) 0),a (v (L I) 1)])))
 (.ret [a (lt (ln (v (L I) 0)) (ln (v (L I) 1)))])
def tr_spec_l2Put:Tr:=.loop [a (v (L (L I)) 0),a (v (L I) 1),a (k false),a (c 0),a (nl (L I))]
 (.ite (lt (v I 3) (ln (v (L (L I)) 0)))
 (.join
 (.ite (nt (v B 2))
 (.guard (le (c 0) (v I 3))
 (.guard (lt (v I 3) (ln (v (L (L I)) 0)))
 (.call f_spec_l2Same [a (ix (v (L (L I)) 0) (v I 3)),a (v (L I) 1)] 774
 (.ite (v B 774)
 (.jump 0 [a (v (L (L I)) 0),a (v (L I) 1),a (k true),a (v I 3),a (v (L (L I)) 4)])
 (.jump 0 [a (v (L (L I)) 0),a (v (L I) 1),a (v B 2),a (v I 3),a (v (L (L I)) 4)])))))
 (.jump 0 [a (v (L (L I)) 0),a (v (L I) 1),a (v B 2),a (v I 3),a (v (L (L I)) 4)]))
 (.join
 (.ite (nt (v B 2))
 (.guard (le (c 0) (v I 3))
 (.guard (lt (v I 3) (ln (v (L (L I)) 0)))
 (.call f_spec_l2Less [a (v (L I) 1),a (ix (v (L (L I)) 0) (v I 3))] 518
 (.ite (v B 518)
 (.guard (le (ln (v (L (L I)) 4)) (c 549755813888))
 (.guard (le (ln (one (v (L I) 1))) (c 549755813888))
 (.jump 0 [a (v (L (L I)) 0),a (v (L I) 1),a (k true),a (v I 3),a (app (v (L (L I)) 4) (one (v (L I) 1)))])))
 (.jump 0 [a (v (L (L I)) 0),a (v (L I) 1),a (v B 2),a (v I 3),a (v (L (L I)) 4)])))))
 (.jump 0 [a (v (L (L I)) 0),a (v (L I) 1),a (v B 2),a (v I 3),a (v (L (L I)) 4)]))
 (.guard (le (c 0) (v I 3))
 (.guard (lt (v I 3) (ln (v (L (L I)) 0)))
 (.guard (le (ln (v (L (L I)) 4)) (c 549755813888))
 (.guard (le (ln (one (ix (v (L (L I)) 0) (v I 3)))) (c 549755813888))
 (.jump 0 [a (v (L (L I)) 0),a (v (L I) 1),a (v B 2),a (add (v I 3) (c 1)),a (app (v (L (L I)) 4) (one (ix (v (L (L I)) 0) (v I 3))))])))))))
 (.join
 (.ite (nt (v B 2))
 (.guard (le (ln (v (L (L I)) 4)) (c 549755813888))
 (.guard (le (ln (one (v (L I) 1))) (c 549755813888))
 (.jump 0 [a (app (v (L (L I)) 4) (one (v (L I) 1)))])))
 (.jump 0 [a (v (L (L I)) 4)]))
 (.ret [a (v (L (L I)) 0)])))
def tr_spec_l2Next:Tr:=.loop [a (v (L I) 2),a (c 0),a (v (L V3) 0),a (v (L TR) 1),a (nl (L I))]
 (.ite (lt (v I 1) (ln (v (L TR) 3)))
 (.join
 (.call f_spec_l2Use [a (v (L V3) 2),a (v (L TR) 3),a (v (L I) 0),a (v I 1)] 519
 (.ite (gt (ln (v (L I) 519)) (c 0))
 (.call f_spec_l2Put [a (v (L (L I)) 4),a (v (L I) 519)] 967
 (.jump 0 [a (v (L I) 0),a (v I 1),a (v (L V3) 2),a (v (L TR) 3),a (v (L (L I)) 967)]))
 (.jump 0 [a (v (L I) 0),a (v I 1),a (v (L V3) 2),a (v (L TR) 3),a (v (L (L I)) 4)])))
 (.jump 0 [a (v (L I) 0),a (add (v I 1) (c 1)),a (v (L V3) 2),a (v (L TR) 3),a (v (L (L I)) 4)]))
 (.ret [a (v (L (L I)) 4)]))
def tr_spec_l4Number:Tr:=.loop [a (v (L I) 2),a (c 0),a (c 0),a (v (L V3) 0),a (v (L TR) 1)]
 (.ite (lt (v I 2) (ln (v (L I) 0)))
 (.guard (le (c 0) (v I 2))
 (.guard (lt (v I 2) (ln (v (L V3) 3)))
 (.guard (le (c 0) (v I 2))
 (.guard (lt (v I 2) (ln (v (L V3) 3)))
 (.guard (le (c 0) (v I 2))
 (.guard (lt (v I 2) (ln (v (L I) 0)))
 (.guard (le (c 0) (v I 2))
 (.guard (lt (v I 2) (ln (v (L V3) 3)))
 (.jump 0 [a (v (L I) 0),a (sub (add (mul (v I 1) (add (sub (f (s (ix (v (L V3) 3) (v I 2)))) (f (ix (v (L V3) 3) (v I 2)))) (c 1))) (ix (v (L I) 0) (v I 2))) (f (ix (v (L V3) 3) (v I 2)))),a (add (v I 2) (c 1)),a (v (L V3) 3),a (v (L TR) 4)])))))))))
 (.ret [a (v I 1)]))
def tr_spec_l4Steps:Tr:=.loop [a (c 0),a (v (L V3) 0),a (v (L TR) 1),a (nl (L I))]
 (.call f_spec_SizeOf [a (v (L V3) 1),a (v (L TR) 2)] 134
 (.ite (lt (v I 0) (v I 134))
 (.call f_spec_l4State [a (v (L V3) 1),a (v (L TR) 2),a (v I 0)] 454
 (.call f_spec_l2Next [a (v (L V3) 1),a (v (L TR) 2),a (v (L I) 454)] 518
 (.loop [a (v I 0),a (c 0),a (v (L V3) 1),a (v (L TR) 2),a (v (L (L I)) 3),a (v (L (L I)) 518),a (nl I)]
 (.ite (lt (v I 1) (ln (v (L (L I)) 5)))
 (.guard (le (c 0) (v I 1))
 (.guard (lt (v I 1) (ln (v (L (L I)) 5)))
 (.call f_spec_l4Number [a (v (L V3) 2),a (v (L TR) 3),a (ix (v (L (L I)) 5) (v I 1))] 651
 (.guard (le (ln (v (L I) 6)) (c 549755813888))
 (.guard (le (ln (one (v I 651))) (c 549755813888))
 (.jump 0 [a (v I 0),a (add (v I 1) (c 1)),a (v (L V3) 2),a (v (L TR) 3),a (v (L (L I)) 4),a (v (L (L I)) 5),a (app (v (L I) 6) (one (v I 651)))]))))))
 (.guard (le (ln (v (L (L I)) 4)) (c 549755813888))
 (.guard (le (ln (one (v (L I) 6))) (c 549755813888))
 (.jump 1 [a (add (v I 0) (c 1)),a (v (L V3) 2),a (v (L TR) 3),a (app (v (L (L I)) 4) (one (v (L I) 6)))])))))))
 (.ret [a (v (L (L I)) 3)])))
def tr_spec_l23Usable:Tr:=.loop [a (c 0),a (v (L V3) 0),a (v (L TR) 1),a (nl (L B))]
 (.ite (lt (v I 0) (ln (v (L TR) 2)))
 (.call f_spec_SizeOf [a (v (L V3) 1),a (v (L TR) 2)] 390
 (.guard (le (c 0) (v I 390))
 (.guard (le (v I 390) (c 549755813888))
 (.loop [a (v I 0),a (c 0),a (v (L V3) 1),a (v (L TR) 2),a (v (L (L B)) 3),a (rep (v I 390) (z B))]
 (.ite (lt (v I 1) (ln (v (L B) 5)))
 (.call f_spec_l4State [a (v (L V3) 2),a (v (L TR) 3),a (v I 1)] 649
 (.call f_spec_l2Use [a (v (L V3) 2),a (v (L TR) 3),a (v (L I) 649),a (v I 0)] 713
 (.guard (le (c 0) (v I 1))
 (.guard (lt (v I 1) (ln (v (L B) 5)))
 (.jump 0 [a (v I 0),a (add (v I 1) (c 1)),a (v (L V3) 2),a (v (L TR) 3),a (v (L (L B)) 4),a (st (v (L B) 5) (v I 1) (gt (ln (v (L I) 713)) (c 0)))])))))
 (.guard (le (ln (v (L (L B)) 4)) (c 549755813888))
 (.guard (le (ln (one (v (L B) 5))) (c 549755813888))
 (.jump 1 [a (add (v I 0) (c 1)),a (v (L V3) 2),a (v (L TR) 3),a (app (v (L (L B)) 4) (one (v (L B) 5)))]))))))))
 (.ret [a (v (L (L B)) 3)]))
def tr_spec_l4Marks:Tr:=.guard (le (c 0) (v I 1))
 (.guard (le (v I 1) (c 549755813888))
 (.loop [a (v (L I) 0),a (c 0),a (rep (v I 1) (z B))]
 (.ite (lt (v I 1) (ln (v (L I) 0)))
 (.guard (le (c 0) (v I 1))
 (.guard (lt (v I 1) (ln (v (L I) 0)))
 (.guard (le (c 0) (ix (v (L I) 0) (v I 1)))
 (.guard (lt (ix (v (L I) 0) (v I 1)) (ln (v (L B) 2)))
 (.jump 0 [a (v (L I) 0),a (add (v I 1) (c 1)),a (st (v (L B) 2) (ix (v (L I) 0) (v I 1)) (k true))])))))
 (.ret [a (v (L B) 2)]))))
def tr_spec_l2Has:Tr:=.loop [a (v (L I) 0),a (v I 1),a (c 0)]
 (.ite (lt (v I 2) (ln (v (L I) 0)))
 (.guard (le (c 0) (v I 2))
 (.guard (lt (v I 2) (ln (v (L I) 0)))
 (.ite (eq (ix (v (L I) 0) (v I 2)) (v I 1))
 (.ret [a (k true)])
 (.jump 0 [a (v (L I) 0),a (v I 1),a (add (v I 2) (c 1))]))))
 (.ret [a (k false)]))
def tr_spec_l5Turned:Tr:=.loop [a (v (L (L I)) 0),a (c 0),a (nl (L I))]
 (.ite (lt (v I 1) (ln (v (L (L I)) 0)))
 (.loop [a (v (L (L I)) 0),a (v I 1),a (c 0),a (v (L (L I)) 2),a (nl I)]
 (.ite (lt (v I 2) (ln (v (L (L I)) 0)))
 (.join
 (.guard (le (c 0) (v I 2))
 (.guard (lt (v I 2) (ln (v (L (L I)) 0)))
 (.call f_spec_l2Has [a (ix (v (L (L I)) 0) (v I 2)),a (v I 1)] 583
 (.ite (v B 583)
 (.guard (le (ln (v (L I) 4)) (c 549755813888))
 (.guard (le (ln (one (v I 2))) (c 549755813888))
 (.jump 0 [a (v (L (L I)) 0),a (v I 1),a (v I 2),a (v (L (L I)) 3),a (app (v (L I) 4) (one (v I 2)))])))
 (.jump 0 [a (v (L (L I)) 0),a (v I 1),a (v I 2),a (v (L (L I)) 3),a (v (L I) 4)])))))
 (.jump 0 [a (v (L (L I)) 0),a (v I 1),a (add (v I 2) (c 1)),a (v (L (L I)) 3),a (v (L I) 4)]))
 (.guard (le (ln (v (L (L I)) 3)) (c 549755813888))
 (.guard (le (ln (one (v (L I) 4))) (c 549755813888))
 (.jump 1 [a (v (L (L I)) 0),a (add (v I 1) (c 1)),a (app (v (L (L I)) 3) (one (v (L I) 4)))])))))
 (.ret [a (v (L (L I)) 2)]))
def tr_spec_l5Steps:Tr:=.loop [a (v (L (L I)) 0),a (v (L B) 1),a (c 0),a (nl I)]
 (.ite (lt (v I 2) (ln (v (L (L I)) 0)))
 (.join
 (.guard (le (c 0) (v I 2))
 (.guard (lt (v I 2) (ln (v (L B) 1)))
 (.ite (ix (v (L B) 1) (v I 2))
 (.guard (le (ln (v (L I) 3)) (c 549755813888))
 (.guard (le (ln (one (c 0))) (c 549755813888))
 (.jump 0 [a (v (L (L I)) 0),a (v (L B) 1),a (v I 2),a (app (v (L I) 3) (one (c 0)))])))
 (.guard (le (ln (v (L I) 3)) (c 549755813888))
 (.guard (le (ln (one (c (-1)))) (c 549755813888))
 (.jump 0 [a (v (L (L I)) 0),a (v (L B) 1),a (v I 2),a (app (v (L I) 3) (one (c (-1))))]))))))
 (.jump 0 [a (v (L (L I)) 0),a (v (L B) 1),a (add (v I 2) (c 1)),a (v (L I) 3)]))
 (.loop [a (v (L (L I)) 0),a (k true),a (c 0),a (v (L I) 3)]
 (.ite (v B 1)
 (.loop [a (v (L (L I)) 0),a (k false),a (v I 2),a (c 0),a (v (L I) 3)]
 (.ite (lt (v I 3) (ln (v (L (L I)) 0)))
 (.join
 (.loop [a (v (L (L I)) 0),a (v B 1),a (v I 2),a (v I 3),a (c 0),a (v (L I) 4)]
 (.guard (le (c 0) (v I 3))
 (.guard (lt (v I 3) (ln (v (L (L I)) 0)))
 (.ite (lt (v I 4) (ln (ix (v (L (L I)) 0) (v I 3))))
 (.guard (le (c 0) (v I 3))
 (.guard (lt (v I 3) (ln (v (L I) 5)))
 (.ite (eq (ix (v (L I) 5) (v I 3)) (v I 2))
 (.join
 (.guard (le (c 0) (v I 3))
 (.guard (lt (v I 3) (ln (v (L (L I)) 0)))
 (.guard (le (c 0) (v I 4))
 (.guard (lt (v I 4) (ln (ix (v (L (L I)) 0) (v I 3))))
 (.guard (le (c 0) (ix (ix (v (L (L I)) 0) (v I 3)) (v I 4)))
 (.guard (lt (ix (ix (v (L (L I)) 0) (v I 3)) (v I 4)) (ln (v (L I) 5)))
 (.ite (lt (ix (v (L I) 5) (ix (ix (v (L (L I)) 0) (v I 3)) (v I 4))) (c 0))
 (.guard (le (c 0) (v I 3))
 (.guard (lt (v I 3) (ln (v (L (L I)) 0)))
 (.guard (le (c 0) (v I 4))
 (.guard (lt (v I 4) (ln (ix (v (L (L I)) 0) (v I 3))))
 (.guard (le (c 0) (ix (ix (v (L (L I)) 0) (v I 3)) (v I 4)))
 (.guard (lt (ix (ix (v (L (L I)) 0) (v I 3)) (v I 4)) (ln (v (L I) 5)))
 (.jump 0 [a (v (L (L I)) 0),a (k true),a (v I 2),a (v I 3),a (v I 4),a (st (v (L I) 5) (ix (ix (v (L (L I)) 0) (v I 3)) (v I 4)) (add (v I 2) (c 1)))])))))))
 (.jump 0 [a (v (L (L I)) 0),a (v B 1),a (v I 2),a (v I 3),a (v I 4),a (v (L I) 5)]))))))))
 (.jump 0 [a (v (L (L I)) 0),a (v B 1),a (v I 2),a (v I 3),a (add (v I 4) (c 1)),a (v (L I) 5)]))
 (.jump 1 [a (v (L (L I)) 0),a (v B 1),a (v I 2),a (v I 3),a (v (L I) 5)]))))
 (.jump 1 [a (v (L (L I)) 0),a (v B 1),a (v I 2),a (v I 3),a (v (L I) 5)])))))
 (.jump 0 [a (v (L (L I)) 0),a (v B 1),a (v I 2),a (add (v I 3) (c 1)),a (v (L I) 4)]))
 (.jump 1 [a (v (L (L I)) 0),a (v B 1),a (add (v I 2) (c 1)),a (v (L I) 4)])))
 (.ret [a (v (L I) 3)]))))
def tr_spec_l5Parts:Tr:=.call f_spec_l5Turned [a (v (L (L I)) 0)] 100128
 (.loop [a (v (L (L I)) 0),a (c 0),a (v (L (L I)) 100128),a (nl I)]
 (.ite (lt (v I 1) (ln (v (L (L I)) 0)))
 (.guard (le (ln (v (L I) 3)) (c 549755813888))
 (.guard (le (ln (one (c (-1)))) (c 549755813888))
 (.jump 0 [a (v (L (L I)) 0),a (add (v I 1) (c 1)),a (v (L (L I)) 2),a (app (v (L I) 3) (one (c (-1))))])))
 (.loop [a (v (L (L I)) 0),a (c 0),a (v (L (L I)) 2),a (v (L I) 3)]
 (.ite (lt (v I 1) (ln (v (L (L I)) 0)))
 (.join
 (.guard (le (c 0) (v I 1))
 (.guard (lt (v I 1) (ln (v (L I) 3)))
 (.ite (lt (ix (v (L I) 3) (v I 1)) (c 0))
 (.call f_spec_l4Marks [a (one (v I 1)),a (ln (v (L (L I)) 0))] 838
 (.call f_spec_l5Steps [a (v (L (L I)) 0),a (v (L B) 838)] 1094
 (.call f_spec_l5Steps [a (v (L (L I)) 2),a (v (L B) 838)] 1350
 (.loop [a (v (L (L I)) 0),a (v I 1),a (v I 1),a (v (L (L I)) 2),a (v (L I) 3),a (v (L I) 1094),a (v (L I) 1350)]
 (.ite (lt (v I 2) (ln (v (L (L I)) 0)))
 (.join
 (.guard (le (c 0) (v I 2))
 (.guard (lt (v I 2) (ln (v (L I) 5)))
 (.ite (ge (ix (v (L I) 5) (v I 2)) (c 0))
 (.guard (le (c 0) (v I 2))
 (.guard (lt (v I 2) (ln (v (L I) 6)))
 (.ite (ge (ix (v (L I) 6) (v I 2)) (c 0))
 (.guard (le (c 0) (v I 2))
 (.guard (lt (v I 2) (ln (v (L I) 4)))
 (.jump 0 [a (v (L (L I)) 0),a (v I 1),a (v I 2),a (v (L (L I)) 3),a (st (v (L I) 4) (v I 2) (v I 1)),a (v (L I) 5),a (v (L I) 6)])))
 (.jump 0 [a (v (L (L I)) 0),a (v I 1),a (v I 2),a (v (L (L I)) 3),a (v (L I) 4),a (v (L I) 5),a (v (L I) 6)]))))
 (.jump 0 [a (v (L (L I)) 0),a (v I 1),a (v I 2),a (v (L (L I)) 3),a (v (L I) 4),a (v (L I) 5),a (v (L I) 6)]))))
 (.jump 0 [a (v (L (L I)) 0),a (v I 1),a (add (v I 2) (c 1)),a (v (L (L I)) 3),a (v (L I) 4),a (v (L I) 5),a (v (L I) 6)]))
 (.jump 1 [a (v (L (L I)) 0),a (v I 1),a (v (L (L I)) 3),a (v (L I) 4)]))))))
 (.jump 0 [a (v (L (L I)) 0),a (v I 1),a (v (L (L I)) 2),a (v (L I) 3)]))))
 (.jump 0 [a (v (L (L I)) 0),a (add (v I 1) (c 1)),a (v (L (L I)) 2),a (v (L I) 3)]))
 (.ret [a (v (L I) 3)])))))
def tr_spec_l23Parts:Tr:=.call f_spec_l4Marks [a (v (L I) 3),a (ln (v (L (L I)) 2))] 100448
 (.loop [a (v (L (L I)) 2),a (v (L I) 3),a (c 0),a (nl (L I)),a (v (L B) 100448)]
 (.ite (lt (v I 2) (ln (v (L (L I)) 0)))
 (.join
 (.loop [a (v (L (L I)) 0),a (v (L I) 1),a (v I 2),a (c 0),a (v (L (L I)) 3),a (v (L B) 4),a (nl I)]
 (.guard (le (c 0) (v I 2))
 (.guard (lt (v I 2) (ln (v (L (L I)) 0)))
 (.ite (lt (v I 3) (ln (ix (v (L (L I)) 0) (v I 2))))
 (.guard (le (c 0) (v I 2))
 (.guard (lt (v I 2) (ln (v (L B) 5)))
 (.ite (ix (v (L B) 5) (v I 2))
 (.join
 (.guard (le (c 0) (v I 2))
 (.guard (lt (v I 2) (ln (v (L (L I)) 0)))
 (.guard (le (c 0) (v I 3))
 (.guard (lt (v I 3) (ln (ix (v (L (L I)) 0) (v I 2))))
 (.guard (le (c 0) (ix (ix (v (L (L I)) 0) (v I 2)) (v I 3)))
 (.guard (lt (ix (ix (v (L (L I)) 0) (v I 2)) (v I 3)) (ln (v (L B) 5)))
 (.ite (ix (v (L B) 5) (ix (ix (v (L (L I)) 0) (v I 2)) (v I 3)))
 (.guard (le (c 0) (v I 2))
 (.guard (lt (v I 2) (ln (v (L (L I)) 0)))
 (.guard (le (c 0) (v I 3))
 (.guard (lt (v I 3) (ln (ix (v (L (L I)) 0) (v I 2))))
 (.guard (le (ln (v (L I) 6)) (c 549755813888))
 (.guard (le (ln (one (ix (ix (v (L (L I)) 0) (v I 2)) (v I 3)))) (c 549755813888))
 (.jump 0 [a (v (L (L I)) 0),a (v (L I) 1),a (v I 2),a (v I 3),a (v (L (L I)) 4),a (v (L B) 5),a (app (v (L I) 6) (one (ix (ix (v (L (L I)) 0) (v I 2)) (v I 3))))])))))))
 (.jump 0 [a (v (L (L I)) 0),a (v (L I) 1),a (v I 2),a (v I 3),a (v (L (L I)) 4),a (v (L B) 5),a (v (L I) 6)]))))))))
 (.jump 0 [a (v (L (L I)) 0),a (v (L I) 1),a (v I 2),a (add (v I 3) (c 1)),a (v (L (L I)) 4),a (v (L B) 5),a (v (L I) 6)]))
 (.jump 1 [a (v (L (L I)) 0),a (v (L I) 1),a (v I 2),a (v (L (L I)) 4),a (v (L B) 5),a (v (L I) 6)]))))
 (.jump 1 [a (v (L (L I)) 0),a (v (L I) 1),a (v I 2),a (v (L (L I)) 4),a (v (L B) 5),a (v (L I) 6)])))))
 (.guard (le (ln (v (L (L I)) 3)) (c 549755813888))
 (.guard (le (ln (one (v (L I) 5))) (c 549755813888))
 (.jump 0 [a (v (L (L I)) 0),a (v (L I) 1),a (add (v I 2) (c 1)),a (app (v (L (L I)) 3) (one (v (L I) 5))),a (v (L B) 4)]))))
 (.call f_spec_l5Parts [a (v (L (L I)) 3)] 327
 (.loop [a (v (L (L I)) 0),a (v (L I) 1),a (c 0),a (v (L (L I)) 3),a (v (L I) 327),a (nl (L I))]
 (.ite (lt (v I 2) (ln (v (L I) 1)))
 (.join
 (.guard (le (c 0) (v I 2))
 (.guard (lt (v I 2) (ln (v (L I) 1)))
 (.guard (le (c 0) (ix (v (L I) 1) (v I 2)))
 (.guard (lt (ix (v (L I) 1) (v I 2)) (ln (v (L I) 4)))
 (.guard (le (c 0) (v I 2))
 (.guard (lt (v I 2) (ln (v (L I) 1)))
 (.ite (eq (ix (v (L I) 4) (ix (v (L I) 1) (v I 2))) (ix (v (L I) 1) (v I 2)))
 (.loop [a (v (L (L I)) 0),a (v (L I) 1),a (v I 2),a (c 0),a (v (L (L I)) 3),a (v (L I) 4),a (v (L (L I)) 5),a (nl I)]
 (.ite (lt (v I 3) (ln (v (L I) 1)))
 (.join
 (.guard (le (c 0) (v I 3))
 (.guard (lt (v I 3) (ln (v (L I) 1)))
 (.guard (le (c 0) (ix (v (L I) 1) (v I 3)))
 (.guard (lt (ix (v (L I) 1) (v I 3)) (ln (v (L I) 5)))
 (.guard (le (c 0) (v I 2))
 (.guard (lt (v I 2) (ln (v (L I) 1)))
 (.ite (eq (ix (v (L I) 5) (ix (v (L I) 1) (v I 3))) (ix (v (L I) 1) (v I 2)))
 (.guard (le (c 0) (v I 3))
 (.guard (lt (v I 3) (ln (v (L I) 1)))
 (.guard (le (ln (v (L I) 7)) (c 549755813888))
 (.guard (le (ln (one (ix (v (L I) 1) (v I 3)))) (c 549755813888))
 (.jump 0 [a (v (L (L I)) 0),a (v (L I) 1),a (v I 2),a (v I 3),a (v (L (L I)) 4),a (v (L I) 5),a (v (L (L I)) 6),a (app (v (L I) 7) (one (ix (v (L I) 1) (v I 3))))])))))
 (.jump 0 [a (v (L (L I)) 0),a (v (L I) 1),a (v I 2),a (v I 3),a (v (L (L I)) 4),a (v (L I) 5),a (v (L (L I)) 6),a (v (L I) 7)]))))))))
 (.jump 0 [a (v (L (L I)) 0),a (v (L I) 1),a (v I 2),a (add (v I 3) (c 1)),a (v (L (L I)) 4),a (v (L I) 5),a (v (L (L I)) 6),a (v (L I) 7)]))
 (.ite (gt (ln (v (L I) 7)) (c 1))
 (.guard (le (ln (v (L (L I)) 6)) (c 549755813888))
 (.guard (le (ln (one (v (L I) 7))) (c 549755813888))
 (.jump 1 [a (v (L (L I)) 0),a (v (L I) 1),a (v I 2),a (v (L (L I)) 4),a (v (L I) 5),a (app (v (L (L I)) 6) (one (v (L I) 7)))])))
 (.guard (le (c 0) (v I 2))
 (.guard (lt (v I 2) (ln (v (L I) 1)))
 (.guard (le (c 0) (ix (v (L I) 1) (v I 2)))
 (.guard (lt (ix (v (L I) 1) (v I 2)) (ln (v (L (L I)) 4)))
 (.guard (le (c 0) (v I 2))
 (.guard (lt (v I 2) (ln (v (L I) 1)))
 (.call f_spec_l2Has [a (ix (v (L (L I)) 4) (ix (v (L I) 1) (v I 2))),a (ix (v (L I) 1) (v I 2))] 1228
 (.ite (v B 1228)
 (.guard (le (ln (v (L (L I)) 6)) (c 549755813888))
 (.guard (le (ln (one (v (L I) 7))) (c 549755813888))
 (.jump 1 [a (v (L (L I)) 0),a (v (L I) 1),a (v I 2),a (v (L (L I)) 4),a (v (L I) 5),a (app (v (L (L I)) 6) (one (v (L I) 7)))])))
 (.guard (le (c 0) (v I 2))
 (.guard (lt (v I 2) (ln (v (L I) 1)))
 (.guard (le (c 0) (ix (v (L I) 1) (v I 2)))
 (.guard (lt (ix (v (L I) 1) (v I 2)) (ln (v (L (L I)) 0)))
 (.ite (eq (ln (ix (v (L (L I)) 0) (ix (v (L I) 1) (v I 2)))) (c 0))
 (.guard (le (ln (v (L (L I)) 6)) (c 549755813888))
 (.guard (le (ln (one (v (L I) 7))) (c 549755813888))
 (.jump 1 [a (v (L (L I)) 0),a (v (L I) 1),a (v I 2),a (v (L (L I)) 4),a (v (L I) 5),a (app (v (L (L I)) 6) (one (v (L I) 7)))])))
 (.jump 1 [a (v (L (L I)) 0),a (v (L I) 1),a (v I 2),a (v (L (L I)) 4),a (v (L I) 5),a (v (L (L I)) 6)])))))))))))))))))
 (.jump 0 [a (v (L (L I)) 0),a (v (L I) 1),a (v I 2),a (v (L (L I)) 3),a (v (L I) 4),a (v (L (L I)) 5)]))))))))
 (.jump 0 [a (v (L (L I)) 0),a (v (L I) 1),a (add (v I 2) (c 1)),a (v (L (L I)) 3),a (v (L I) 4),a (v (L (L I)) 5)]))
 (.ret [a (v (L (L I)) 5)]))))))
def tr_spec_l23Target:Tr:=.call f_spec_l4State [a (v (L V3) 0),a (v (L TR) 1),a (v I 2)] 100384
 (.call f_spec_l2Use [a (v (L V3) 0),a (v (L TR) 1),a (v (L I) 100384),a (v I 3)] 100448
 (.ite (eq (ln (v (L I) 100448)) (c 0))
 (.ret [a (c (-1))])
 (.call f_spec_l4Number [a (v (L V3) 0),a (v (L TR) 1),a (v (L I) 100448)] 100896
 (.ret [a (v I 100896)]))))
def tr_spec_l23Inner:Tr:=.loop [a (v (L I) 2),a (v I 3),a (c 0),a (v (L V3) 0),a (v (L TR) 1)]
 (.ite (lt (v I 2) (ln (v (L I) 0)))
 (.guard (le (c 0) (v I 2))
 (.guard (lt (v I 2) (ln (v (L I) 0)))
 (.call f_spec_l23Target [a (v (L V3) 3),a (v (L TR) 4),a (ix (v (L I) 0) (v I 2)),a (v I 1)] 710
 (.call f_spec_l2Has [a (v (L I) 0),a (v I 710)] 774
 (.ite (v B 774)
 (.guard (le (c 0) (v I 2))
 (.guard (lt (v I 2) (ln (v (L I) 0)))
 (.ret [a (ix (v (L I) 0) (v I 2))])))
 (.jump 0 [a (v (L I) 0),a (v I 1),a (add (v I 2) (c 1)),a (v (L V3) 3),a (v (L TR) 4)]))))))
 (.ret [a (c (-1))]))
def tr_spec_l23Strong:Tr:=.loop [a (v (L (L B)) 2),a (v (L I) 3),a (v (L I) 4),a (v (L I) 4),a (c 0),a (v (L V3) 0),a (v (L TR) 1)]
 (.ite (lt (v I 4) (ln (v (L I) 1)))
 (.join
 (.guard (le (c 0) (v I 4))
 (.guard (lt (v I 4) (ln (v (L I) 1)))
 (.call f_spec_l23Inner [a (v (L V3) 5),a (v (L TR) 6),a (v (L I) 2),a (ix (v (L I) 1) (v I 4))] 648
 (.ite (lt (v I 648) (c 0))
 (.loop [a (v (L (L B)) 0),a (v (L I) 1),a (v (L I) 2),a (v (L I) 3),a (v I 4),a (c 0),a (v (L V3) 5),a (v (L TR) 6),a (nl I)]
 (.ite (lt (v I 5) (ln (v (L I) 3)))
 (.join
 (.guard (le (c 0) (v I 4))
 (.guard (lt (v I 4) (ln (v (L I) 1)))
 (.guard (le (c 0) (ix (v (L I) 1) (v I 4)))
 (.guard (lt (ix (v (L I) 1) (v I 4)) (ln (v (L (L B)) 0)))
 (.guard (le (c 0) (v I 5))
 (.guard (lt (v I 5) (ln (v (L I) 3)))
 (.guard (le (c 0) (ix (v (L I) 3) (v I 5)))
 (.guard (lt (ix (v (L I) 3) (v I 5)) (ln (ix (v (L (L B)) 0) (ix (v (L I) 1) (v I 4)))))
 (.ite (nt (ix (ix (v (L (L B)) 0) (ix (v (L I) 1) (v I 4))) (ix (v (L I) 3) (v I 5))))
 (.guard (le (c 0) (v I 5))
 (.guard (lt (v I 5) (ln (v (L I) 3)))
 (.guard (le (ln (v (L I) 8)) (c 549755813888))
 (.guard (le (ln (one (ix (v (L I) 3) (v I 5)))) (c 549755813888))
 (.jump 0 [a (v (L (L B)) 0),a (v (L I) 1),a (v (L I) 2),a (v (L I) 3),a (v I 4),a (v I 5),a (v (L V3) 6),a (v (L TR) 7),a (app (v (L I) 8) (one (ix (v (L I) 3) (v I 5))))])))))
 (.jump 0 [a (v (L (L B)) 0),a (v (L I) 1),a (v (L I) 2),a (v (L I) 3),a (v I 4),a (v I 5),a (v (L V3) 6),a (v (L TR) 7),a (v (L I) 8)]))))))))))
 (.jump 0 [a (v (L (L B)) 0),a (v (L I) 1),a (v (L I) 2),a (v (L I) 3),a (v I 4),a (add (v I 5) (c 1)),a (v (L V3) 6),a (v (L TR) 7),a (v (L I) 8)]))
 (.jump 1 [a (v (L (L B)) 0),a (v (L I) 1),a (v (L I) 2),a (v (L I) 8),a (v I 4),a (v (L V3) 6),a (v (L TR) 7)])))
 (.jump 0 [a (v (L (L B)) 0),a (v (L I) 1),a (v (L I) 2),a (v (L I) 3),a (v I 4),a (v (L V3) 5),a (v (L TR) 6)])))))
 (.jump 0 [a (v (L (L B)) 0),a (v (L I) 1),a (v (L I) 2),a (v (L I) 3),a (add (v I 4) (c 1)),a (v (L V3) 5),a (v (L TR) 6)]))
 (.ret [a (v (L I) 3)]))
def tr_spec_l23Weak:Tr:=.loop [a (v (L (L B)) 2),a (v (L I) 3),a (v (L I) 4),a (c 0),a (v (L V3) 0),a (v (L TR) 1)]
 (.ite (lt (v I 3) (ln (v (L I) 1)))
 (.join
 (.loop [a (v (L (L B)) 0),a (v (L I) 1),a (v (L I) 2),a (v I 3),a (k true),a (c 0),a (v (L V3) 4),a (v (L TR) 5)]
 (.ite (lt (v I 5) (ln (v (L I) 2)))
 (.join
 (.ite (v B 4)
 (.guard (le (c 0) (v I 3))
 (.guard (lt (v I 3) (ln (v (L I) 1)))
 (.guard (le (c 0) (ix (v (L I) 1) (v I 3)))
 (.guard (lt (ix (v (L I) 1) (v I 3)) (ln (v (L (L B)) 0)))
 (.guard (le (c 0) (v I 5))
 (.guard (lt (v I 5) (ln (v (L I) 2)))
 (.guard (le (c 0) (ix (v (L I) 2) (v I 5)))
 (.guard (lt (ix (v (L I) 2) (v I 5)) (ln (ix (v (L (L B)) 0) (ix (v (L I) 1) (v I 3)))))
 (.jump 0 [a (v (L (L B)) 0),a (v (L I) 1),a (v (L I) 2),a (v I 3),a (ix (ix (v (L (L B)) 0) (ix (v (L I) 1) (v I 3))) (ix (v (L I) 2) (v I 5))),a (v I 5),a (v (L V3) 6),a (v (L TR) 7)])))))))))
 (.jump 0 [a (v (L (L B)) 0),a (v (L I) 1),a (v (L I) 2),a (v I 3),a (k false),a (v I 5),a (v (L V3) 6),a (v (L TR) 7)]))
 (.jump 0 [a (v (L (L B)) 0),a (v (L I) 1),a (v (L I) 2),a (v I 3),a (v B 4),a (add (v I 5) (c 1)),a (v (L V3) 6),a (v (L TR) 7)]))
 (.ite (v B 4)
 (.guard (le (c 0) (v I 3))
 (.guard (lt (v I 3) (ln (v (L I) 1)))
 (.call f_spec_l23Inner [a (v (L V3) 6),a (v (L TR) 7),a (v (L I) 2),a (ix (v (L I) 1) (v I 3))] 777
 (.ite (lt (v I 777) (c 0))
 (.ret [a (k false)])
 (.jump 1 [a (v (L (L B)) 0),a (v (L I) 1),a (v (L I) 2),a (v I 3),a (v (L V3) 6),a (v (L TR) 7)])))))
 (.jump 1 [a (v (L (L B)) 0),a (v (L I) 1),a (v (L I) 2),a (v I 3),a (v (L V3) 6),a (v (L TR) 7)]))))
 (.jump 0 [a (v (L (L B)) 0),a (v (L I) 1),a (v (L I) 2),a (add (v I 3) (c 1)),a (v (L V3) 4),a (v (L TR) 5)]))
 (.ret [a (k true)]))
def tr_spec_l23Cores:Tr:=.call f_spec_l23Parts [a (v (L V3) 0),a (v (L TR) 1),a (v (L (L I)) 2),a (v (L I) 6)] 100448
 (.loop [a (v (L (L I)) 2),a (v (L (L B)) 3),a (v (L I) 4),a (v (L I) 5),a (v (L (L I)) 100448),a (c 0),a (v (L V3) 0),a (v (L TR) 1),a (nl (L I))]
 (.ite (lt (v I 5) (ln (v (L (L I)) 4)))
 (.join
 (.guard (le (c 0) (v I 5))
 (.guard (lt (v I 5) (ln (v (L (L I)) 4)))
 (.call f_spec_l23Strong [a (v (L V3) 6),a (v (L TR) 7),a (v (L (L B)) 1),a (v (L I) 3),a (ix (v (L (L I)) 4) (v I 5))] 715
 (.guard (le (c 0) (v I 5))
 (.guard (lt (v I 5) (ln (v (L (L I)) 4)))
 (.ite (eq (ln (v (L I) 715)) (ln (ix (v (L (L I)) 4) (v I 5))))
 (.guard (le (c 0) (v I 5))
 (.guard (lt (v I 5) (ln (v (L (L I)) 4)))
 (.call f_spec_l23Weak [a (v (L V3) 6),a (v (L TR) 7),a (v (L (L B)) 1),a (v (L I) 2),a (ix (v (L (L I)) 4) (v I 5))] 1803
 (.ite (v B 1803)
 (.guard (le (c 0) (v I 5))
 (.guard (lt (v I 5) (ln (v (L (L I)) 4)))
 (.guard (le (ln (v (L (L I)) 8)) (c 549755813888))
 (.guard (le (ln (one (ix (v (L (L I)) 4) (v I 5)))) (c 549755813888))
 (.jump 0 [a (v (L (L I)) 0),a (v (L (L B)) 1),a (v (L I) 2),a (v (L I) 3),a (v (L (L I)) 4),a (v I 5),a (v (L V3) 6),a (v (L TR) 7),a (app (v (L (L I)) 8) (one (ix (v (L (L I)) 4) (v I 5))))])))))
 (.jump 0 [a (v (L (L I)) 0),a (v (L (L B)) 1),a (v (L I) 2),a (v (L I) 3),a (v (L (L I)) 4),a (v I 5),a (v (L V3) 6),a (v (L TR) 7),a (v (L (L I)) 8)])))))
 (.guard (le (c 0) (v I 5))
 (.guard (lt (v I 5) (ln (v (L (L I)) 4)))
 (.call f_spec_l23Weak [a (v (L V3) 6),a (v (L TR) 7),a (v (L (L B)) 1),a (v (L I) 2),a (ix (v (L (L I)) 4) (v I 5))] 1803
 (.ite (v B 1803)
 (.call f_spec_l23Cores [a (v (L V3) 6),a (v (L TR) 7),a (v (L (L I)) 0),a (v (L (L B)) 1),a (v (L I) 2),a (v (L I) 3),a (v (L I) 715)] 2251
 (.loop [a (v (L (L I)) 0),a (v (L (L B)) 1),a (v (L I) 2),a (v (L I) 3),a (v (L (L I)) 4),a (v I 5),a (c 0),a (v (L V3) 6),a (v (L TR) 7),a (v (L (L I)) 8),a (v (L (L I)) 2251)]
 (.ite (lt (v I 6) (ln (v (L (L I)) 10)))
 (.guard (le (c 0) (v I 6))
 (.guard (lt (v I 6) (ln (v (L (L I)) 10)))
 (.guard (le (ln (v (L (L I)) 9)) (c 549755813888))
 (.guard (le (ln (one (ix (v (L (L I)) 10) (v I 6)))) (c 549755813888))
 (.jump 0 [a (v (L (L I)) 0),a (v (L (L B)) 1),a (v (L I) 2),a (v (L I) 3),a (v (L (L I)) 4),a (v I 5),a (add (v I 6) (c 1)),a (v (L V3) 7),a (v (L TR) 8),a (app (v (L (L I)) 9) (one (ix (v (L (L I)) 10) (v I 6)))),a (v (L (L I)) 10)])))))
 (.jump 1 [a (v (L (L I)) 0),a (v (L (L B)) 1),a (v (L I) 2),a (v (L I) 3),a (v (L (L I)) 4),a (v I 5),a (v (L V3) 7),a (v (L TR) 8),a (v (L (L I)) 9)]))))
 (.jump 0 [a (v (L (L I)) 0),a (v (L (L B)) 1),a (v (L I) 2),a (v (L I) 3),a (v (L (L I)) 4),a (v I 5),a (v (L V3) 6),a (v (L TR) 7),a (v (L (L I)) 8)])))))))))))
 (.jump 0 [a (v (L (L I)) 0),a (v (L (L B)) 1),a (v (L I) 2),a (v (L I) 3),a (v (L (L I)) 4),a (add (v I 5) (c 1)),a (v (L V3) 6),a (v (L TR) 7),a (v (L (L I)) 8)]))
 (.ret [a (v (L (L I)) 8)])))
def tr_spec_FairCores:Tr:=.call f_spec_l23Asked [a (v (L V3) 0),a (v (L TR) 1),a (v (L I) 2),a (v (L I) 3)] 100320
 (.ite (nt (v B 100320))
 (.ret [a (nl (L I))])
 (.call f_spec_SetValid [a (v (L V3) 0),a (v (L TR) 1),a (v (L I) 4)] 100640
 (.ite (nt (v B 100640))
 (.ret [a (nl (L I))])
 (.call f_spec_l4Steps [a (v (L V3) 0),a (v (L TR) 1)] 101344
 (.call f_spec_l23Usable [a (v (L V3) 0),a (v (L TR) 1)] 101408
 (.call f_spec_l23Cores [a (v (L V3) 0),a (v (L TR) 1),a (v (L (L I)) 101344),a (v (L (L B)) 101408),a (v (L I) 2),a (v (L I) 3),a (v (L I) 4)] 101472
 (.loop [a (c 0),a (nl (L I)),a (v (L (L I)) 101472)]
 (.ite (lt (v I 0) (ln (v (L (L I)) 2)))
 (.guard (le (c 0) (v I 0))
 (.guard (lt (v I 0) (ln (v (L (L I)) 2)))
 (.call f_spec_l3Copy [a (ix (v (L (L I)) 2) (v I 0))] 581
 (.guard (le (ln (v (L (L I)) 1)) (c 549755813888))
 (.guard (le (ln (one (v (L I) 581))) (c 549755813888))
 (.jump 0 [a (add (v I 0) (c 1)),a (app (v (L (L I)) 1) (one (v (L I) 581))),a (v (L (L I)) 2)]))))))
 (.ret [a (v (L (L I)) 1)])))))))))
def tr_impl_in:Tr:=.ite (ge (v I 0) (v I 1))
 (.ret [a (le (v I 0) (v I 2))])
 (.ret [a (k false)])
def tr_impl_varOk:Tr:=.call f_impl_in [a (v I 0),a (c (-9999)),a (c 9999)] 100256
 (.ite (v B 100256)
 (.call f_impl_in [a (v I 1),a (v I 0),a (c 9999)] 100640
 (.ite (v B 100640)
 (.ite (lt (sub (v I 1) (v I 0)) (c 20))
 (.call f_impl_in [a (v I 2),a (v I 0),a (v I 1)] 101728
 (.ret [a (v B 101728)]))
 (.ret [a (k false)]))
 (.ret [a (k false)])))
 (.ret [a (k false)]))
def tr_impl_size:Tr:=.loop [a (c 1),a (v (L V3) 0),a (ln (v (L V3) 0)),a (c 0)]
 (.ite (lt (v I 3) (v I 2))
 (.guard (le (c 0) (v I 3))
 (.guard (lt (v I 3) (ln (v (L V3) 1)))
 (.jump 0 [a (mul (v I 0) (add (sub (f (s (ix (v (L V3) 1) (v I 3)))) (f (ix (v (L V3) 1) (v I 3)))) (c 1))),a (v (L V3) 1),a (v I 2),a (add (v I 3) (c 1))])))
 (.ret [a (v I 0)]))
end Go.Proofs.YtknlennollmgeaaGreat
namespace Go.Proofs.YtknlennollmgeaaGreat
open Go Go.Sm Go.Sm.Q
def tr_impl_parts:Tr:=.ite (eq (v I 0) (c 2))
 (.ret [a (c 2),a (c 1),a (c 1)])
 (.ite (eq (v I 0) (c 3))
 (.ret [a (c 2),a (c 1),a (c 1)])
 (.ite (eq (v I 0) (c 4))
 (.ret [a (c 2),a (c 1),a (c 1)])
 (.ite (eq (v I 0) (c 5))
 (.ret [a (c 2),a (c 1),a (c 2)])
 (.ite (eq (v I 0) (c 6))
 (.ret [a (c 2),a (c 1),a (c 2)])
 (.ite (eq (v I 0) (c 7))
 (.ret [a (c 1),a (c 2),a (c 2)])
 (.ite (eq (v I 0) (c 8))
 (.ret [a (c 2),a (c 2),a (c 2)])
 (.ite (eq (v I 0) (c 9))
 (.ret [a (c 2),a (c 2),a (c 2)])
 (.ret [a (c 0),a (c 0),a (c 1)]))))))))
def tr_impl_kindsOf:Tr:=.call f_impl_in [a (v I 1),a (c 0),a (c 5)] 100128
 (.ite (nt (v B 100128))
 (.ret [a (.nil true I)])
 (.call f_impl_in [a (ln (v (L T4) 0)),a (c 1),a (c 40)] 100448
 (.ite (nt (v B 100448))
 (.ret [a (.nil true I)])
 (.guard (le (c 0) (ln (v (L T4) 0)))
 (.guard (le (ln (v (L T4) 0)) (c 549755813888))
 (.loop [a (v I 1),a (v (L T4) 0),a (ln (v (L T4) 0)),a (c 0),a (rep (c 0) (z I))]
 (.ite (lt (v I 3) (v I 2))
 (.guard (le (c 0) (v I 3))
 (.guard (lt (v I 3) (ln (v (L T4) 1)))
 (.call f_impl_parts [a (f (ix (v (L T4) 1) (v I 3)))] 582
 (.call f_impl_in [a (f (ix (v (L T4) 1) (v I 3))),a (c 0),a (c 9)] 1222
 (.join
 (.ite (eq (f (ix (v (L T4) 1) (v I 3))) (c 0))
 (.call f_impl_in [a (f (s (ix (v (L T4) 1) (v I 3)))),a (c (-9999)),a (c 9999)] 1734
 (.ite (v B 1734)
 (.ite (eq (f (s (s (ix (v (L T4) 1) (v I 3))))) (c 0))
 (.jump 0 [a (v I 0),a (v I 584),a (eq (s (s (s (ix (v (L T4) 1) (v I 3))))) (c 0)),a (v (L T4) 1),a (v I 2),a (v I 3),a (v (L I) 4)])
 (.jump 0 [a (v I 0),a (v I 584),a (k false),a (v (L T4) 1),a (v I 2),a (v I 3),a (v (L I) 4)]))
 (.jump 0 [a (v I 0),a (v I 584),a (k false),a (v (L T4) 1),a (v I 2),a (v I 3),a (v (L I) 4)])))
 (.ite (eq (f (ix (v (L T4) 1) (v I 3))) (c 1))
 (.call f_impl_in [a (f (s (ix (v (L T4) 1) (v I 3)))),a (c 0),a (sub (v I 0) (c 1))] 2118
 (.ite (v B 2118)
 (.ite (eq (f (s (s (ix (v (L T4) 1) (v I 3))))) (c 0))
 (.jump 0 [a (v I 0),a (v I 584),a (eq (s (s (s (ix (v (L T4) 1) (v I 3))))) (c 0)),a (v (L T4) 1),a (v I 2),a (v I 3),a (v (L I) 4)])
 (.jump 0 [a (v I 0),a (v I 584),a (k false),a (v (L T4) 1),a (v I 2),a (v I 3),a (v (L I) 4)]))
 (.jump 0 [a (v I 0),a (v I 584),a (k false),a (v (L T4) 1),a (v I 2),a (v I 3),a (v (L I) 4)])))
 (.ite (v B 1222)
 (.ite (eq (f (s (ix (v (L T4) 1) (v I 3)))) (c 0))
 (.call f_impl_in [a (f (s (s (ix (v (L T4) 1) (v I 3))))),a (c 0),a (sub (v I 3) (c 1))] 2502
 (.ite (v B 2502)
 (.call f_impl_in [a (s (s (s (ix (v (L T4) 1) (v I 3))))),a (c 0),a (sub (v I 3) (c 1))] 2950
 (.ite (v B 2950)
 (.guard (le (c 0) (f (s (s (ix (v (L T4) 1) (v I 3))))))
 (.guard (lt (f (s (s (ix (v (L T4) 1) (v I 3))))) (ln (v (L I) 4)))
 (.ite (eq (ix (v (L I) 4) (f (s (s (ix (v (L T4) 1) (v I 3)))))) (v I 583))
 (.guard (le (c 0) (s (s (s (ix (v (L T4) 1) (v I 3))))))
 (.guard (lt (s (s (s (ix (v (L T4) 1) (v I 3))))) (ln (v (L I) 4)))
 (.ite (eq (ix (v (L I) 4) (s (s (s (ix (v (L T4) 1) (v I 3)))))) (v I 583))
 (.ite (eq (v I 582) (c 2))
 (.jump 0 [a (v I 0),a (v I 584),a (k true),a (v (L T4) 1),a (v I 2),a (v I 3),a (v (L I) 4)])
 (.jump 0 [a (v I 0),a (v I 584),a (eq (f (s (s (ix (v (L T4) 1) (v I 3))))) (s (s (s (ix (v (L T4) 1) (v I 3)))))),a (v (L T4) 1),a (v I 2),a (v I 3),a (v (L I) 4)]))
 (.jump 0 [a (v I 0),a (v I 584),a (k false),a (v (L T4) 1),a (v I 2),a (v I 3),a (v (L I) 4)]))))
 (.jump 0 [a (v I 0),a (v I 584),a (k false),a (v (L T4) 1),a (v I 2),a (v I 3),a (v (L I) 4)]))))
 (.jump 0 [a (v I 0),a (v I 584),a (k false),a (v (L T4) 1),a (v I 2),a (v I 3),a (v (L I) 4)])))
 (.jump 0 [a (v I 0),a (v I 584),a (k false),a (v (L T4) 1),a (v I 2),a (v I 3),a (v (L I) 4)])))
 (.jump 0 [a (v I 0),a (v I 584),a (k false),a (v (L T4) 1),a (v I 2),a (v I 3),a (v (L I) 4)]))
 (.jump 0 [a (v I 0),a (v I 584),a (k false),a (v (L T4) 1),a (v I 2),a (v I 3),a (v (L I) 4)]))))
 (.ite (nt (v B 2))
 (.ret [a (.nil true I)])
 (.guard (le (ln (v (L I) 6)) (c 549755813888))
 (.guard (le (ln (one (v I 1))) (c 549755813888))
 (.jump 0 [a (v I 0),a (v (L T4) 3),a (v I 4),a (add (v I 5) (c 1)),a (app (v (L I) 6) (one (v I 1)))])))))))))
 (.guard (nt (emp (v (L I) 4)))
 (.ret [a (re true (v (L I) 4))])))))))))
def tr_impl_kindOf:Tr:=.call f_impl_kindsOf [a (v (L T4) 0),a (v I 1)] 100192
 (.ite (emp (v (N I) 100192))
 (.ret [a (c 0)])
 (.guard (le (c 0) (sub (lm (v (N I) 100192)) (c 1)))
 (.guard (lt (sub (lm (v (N I) 100192)) (c 1)) (lm (v (N I) 100192)))
 (.ret [a (im (v (N I) 100192) (sub (lm (v (N I) 100192)) (c 1)))]))))
def tr_impl_ruleOk:Tr:=.call f_impl_kindOf [a (v (L T4) 0),a (v I 3)] 100320
 (.ite (ne (v I 100320) (c 2))
 (.ret [a (k false)])
 (.ite (ne (ln (v (L I) 1)) (ln (v (L (L T4)) 2)))
 (.ret [a (k false)])
 (.loop [a (v I 3),a (v (L I) 1),a (ln (v (L I) 1)),a (c 0),a (v (L T4) 0),a (v (L I) 1),a (v (L (L T4)) 2)]
 (.ite (lt (v I 3) (v I 2))
 (.join
 (.guard (le (c 0) (v I 3))
 (.guard (lt (v I 3) (ln (v (L I) 1)))
 (.call f_impl_in [a (ix (v (L I) 1) (v I 3)),a (c 0),a (sub (v I 0) (c 1))] 584
 (.ite (nt (v B 584))
 (.ret [a (k false)])
 (.ite (gt (v I 3) (c 0))
 (.guard (le (c 0) (sub (v I 3) (c 1)))
 (.guard (lt (sub (v I 3) (c 1)) (ln (v (L I) 5)))
 (.ite (ge (ix (v (L I) 5) (sub (v I 3) (c 1))) (ix (v (L I) 1) (v I 3)))
 (.ret [a (k false)])
 (.guard (le (c 0) (v I 3))
 (.guard (lt (v I 3) (ln (v (L (L T4)) 6)))
 (.call f_impl_kindOf [a (ix (v (L (L T4)) 6) (v I 3)),a (v I 0)] 2056
 (.ite (ne (v I 2056) (c 1))
 (.ret [a (k false)])
 (.jump 0 [a (v I 0),a (v (L I) 1),a (v I 2),a (v I 3),a (v (L T4) 4),a (v (L I) 5),a (v (L (L T4)) 6)]))))))))
 (.guard (le (c 0) (v I 3))
 (.guard (lt (v I 3) (ln (v (L (L T4)) 6)))
 (.call f_impl_kindOf [a (ix (v (L (L T4)) 6) (v I 3)),a (v I 0)] 2056
 (.ite (ne (v I 2056) (c 1))
 (.ret [a (k false)])
 (.jump 0 [a (v I 0),a (v (L I) 1),a (v I 2),a (v I 3),a (v (L T4) 4),a (v (L I) 5),a (v (L (L T4)) 6)]))))))))))
 (.jump 0 [a (v I 0),a (v (L I) 1),a (v I 2),a (add (v I 3) (c 1)),a (v (L T4) 4),a (v (L I) 5),a (v (L (L T4)) 6)]))
 (.ret [a (k true)])))))
def tr_impl_SystemValid:Tr:=.join
 (.call f_impl_in [a (ln (v (L V3) 0)),a (c 1),a (c 5)] 100320
 (.ite (nt (v B 100320))
 (.ret [a (k false)])
 (.ite (gt (ln (v (L TR) 1)) (c 8))
 (.ret [a (k false)])
 (.loop [a (v (L V3) 0),a (ln (v (L V3) 0)),a (c 0),a (v (L V3) 0),a (v (L TR) 1)]
 (.ite (lt (v I 2) (v I 1))
 (.guard (le (c 0) (v I 2))
 (.guard (lt (v I 2) (ln (v (L V3) 0)))
 (.call f_impl_varOk [a (f (ix (v (L V3) 0) (v I 2))),a (f (s (ix (v (L V3) 0) (v I 2)))),a (s (s (ix (v (L V3) 0) (v I 2))))] 774
 (.ite (nt (v B 774))
 (.ite (ge (v I 2) (c 0))
 (.ret [a (k false)])
 (.call f_impl_size [a (v (L V3) 3)] 3014
 (.ite (gt (v I 3014) (c 400))
 (.ret [a (k false)])
 (.jump 1 [a (v (L V3) 3),a (v (L TR) 4)]))))
 (.jump 0 [a (v (L V3) 0),a (v I 1),a (add (v I 2) (c 1)),a (v (L V3) 3),a (v (L TR) 4)])))))
 (.call f_impl_size [a (v (L V3) 3)] 1670
 (.ite (gt (v I 1670) (c 400))
 (.ret [a (k false)])
 (.jump 1 [a (v (L V3) 3),a (v (L TR) 4)]))))))))
 (.loop [a (v (L TR) 1),a (ln (v (L TR) 1)),a (c 0),a (v (L V3) 0),a (v (L TR) 1)]
 (.ite (lt (v I 2) (v I 1))
 (.guard (le (c 0) (v I 2))
 (.guard (lt (v I 2) (ln (v (L TR) 0)))
 (.call f_impl_ruleOk [a (f (ix (v (L TR) 0) (v I 2))),a (f (s (ix (v (L TR) 0) (v I 2)))),a (s (s (ix (v (L TR) 0) (v I 2)))),a (ln (v (L V3) 3))] 966
 (.ite (nt (v B 966))
 (.ret [a (nt (ge (v I 2) (c 0)))])
 (.jump 0 [a (v (L TR) 0),a (v I 1),a (add (v I 2) (c 1)),a (v (L V3) 3),a (v (L TR) 4)])))))
 (.ret [a (nt (ge (c (-1)) (c 0)))])))
def tr_impl_setOk:Tr:=.loop [a (v (L I) 0),a (v I 1),a (v (L I) 0),a (ln (v (L I) 0)),a (c 0)]
 (.ite (lt (v I 4) (v I 3))
 (.join
 (.guard (le (c 0) (v I 4))
 (.guard (lt (v I 4) (ln (v (L I) 2)))
 (.call f_impl_in [a (ix (v (L I) 2) (v I 4)),a (c 0),a (sub (v I 1) (c 1))] 581
 (.ite (nt (v B 581))
 (.ret [a (k false)])
 (.ite (gt (v I 4) (c 0))
 (.guard (le (c 0) (sub (v I 4) (c 1)))
 (.guard (lt (sub (v I 4) (c 1)) (ln (v (L I) 0)))
 (.ite (ge (ix (v (L I) 0) (sub (v I 4) (c 1))) (ix (v (L I) 2) (v I 4)))
 (.ret [a (k false)])
 (.jump 0 [a (v (L I) 0),a (v I 1),a (v (L I) 2),a (v I 3),a (v I 4)]))))
 (.jump 0 [a (v (L I) 0),a (v I 1),a (v (L I) 2),a (v I 3),a (v I 4)]))))))
 (.jump 0 [a (v (L I) 0),a (v I 1),a (v (L I) 2),a (v I 3),a (add (v I 4) (c 1))]))
 (.ret [a (k true)]))
def tr_impl_rulesOk:Tr:=.call f_impl_setOk [a (v (L I) 2),a (ln (v (L TR) 1))] 100384
 (.ret [a (v B 100384)])
def tr_impl_stateAt:Tr:=.guard (le (c 0) (ln (v (L V3) 0)))
 (.guard (le (ln (v (L V3) 0)) (c 549755813888))
 (.loop [a (v I 2),a (sub (ln (rep (ln (v (L V3) 0)) (z I))) (c 1)),a (v (L V3) 0),a (v (L TR) 1),a (rep (ln (v (L V3) 0)) (z I))]
 (.ite (ge (v I 1) (c 0))
 (.guard (le (c 0) (v I 1))
 (.guard (lt (v I 1) (ln (v (L V3) 2)))
 (.guard (ne (add (sub (f (s (ix (v (L V3) 2) (v I 1)))) (f (ix (v (L V3) 2) (v I 1)))) (c 1)) (c 0))
 (.guard (le (c 0) (v I 1))
 (.guard (lt (v I 1) (ln (v (L I) 4)))
 (.guard (ne (add (sub (f (s (ix (v (L V3) 2) (v I 1)))) (f (ix (v (L V3) 2) (v I 1)))) (c 1)) (c 0))
 (.jump 0 [a (quo (v I 0) (add (sub (f (s (ix (v (L V3) 2) (v I 1)))) (f (ix (v (L V3) 2) (v I 1)))) (c 1))),a (sub (v I 1) (c 1)),a (v (L V3) 2),a (v (L TR) 3),a (st (v (L I) 4) (v I 1) (add (f (ix (v (L V3) 2) (v I 1))) (rem (v I 0) (add (sub (f (s (ix (v (L V3) 2) (v I 1)))) (f (ix (v (L V3) 2) (v I 1)))) (c 1)))))])))))))
 (.ret [a (v (L I) 4)]))))
def tr_impl_held:Tr:=.ret [a (.o2 (.mx .i64) (c (-9999)) (.o2 (.mn .i64) (c 9999) (v I 0)))]
def tr_impl_bit:Tr:=.ite (v B 0)
 (.ret [a (c 1)])
 (.ret [a (c 0)])
def tr_impl_do:Tr:=.ite (eq (v I 0) (c 2))
 (.call f_impl_held [a (add (v I 1) (v I 2))] 100448
 (.ret [a (v I 100448)]))
 (.ite (eq (v I 0) (c 3))
 (.call f_impl_held [a (sub (v I 1) (v I 2))] 100576
 (.ret [a (v I 100576)]))
 (.ite (eq (v I 0) (c 4))
 (.call f_impl_held [a (mul (v I 1) (v I 2))] 100704
 (.ret [a (v I 100704)]))
 (.ite (eq (v I 0) (c 5))
 (.call f_impl_bit [a (lt (v I 1) (v I 2))] 100832
 (.ret [a (v I 100832)]))
 (.ite (eq (v I 0) (c 6))
 (.call f_impl_bit [a (eq (v I 1) (v I 2))] 100960
 (.ret [a (v I 100960)]))
 (.ite (eq (v I 0) (c 7))
 (.ret [a (sub (c 1) (v I 1))])
 (.ite (eq (v I 0) (c 8))
 (.ret [a (.o2 (.mn .i64) (v I 1) (v I 2))])
 (.ret [a (.o2 (.mx .i64) (v I 1) (v I 2))])))))))
def tr_impl_eval:Tr:=.guard (le (c 0) (ln (v (L T4) 0)))
 (.guard (le (ln (v (L T4) 0)) (c 549755813888))
 (.loop [a (v (L I) 1),a (v (L T4) 0),a (ln (v (L T4) 0)),a (c 0),a (rep (ln (v (L T4) 0)) (z I))]
 (.ite (lt (v I 3) (v I 2))
 (.join
 (.guard (le (c 0) (v I 3))
 (.guard (lt (v I 3) (ln (v (L T4) 1)))
 (.ite (eq (f (ix (v (L T4) 1) (v I 3))) (c 0))
 (.guard (le (c 0) (v I 3))
 (.guard (lt (v I 3) (ln (v (L I) 4)))
 (.jump 0 [a (v (L I) 0),a (v (L T4) 1),a (v I 2),a (v I 3),a (st (v (L I) 4) (v I 3) (f (s (ix (v (L T4) 1) (v I 3)))))])))
 (.ite (eq (f (ix (v (L T4) 1) (v I 3))) (c 1))
 (.guard (le (c 0) (f (s (ix (v (L T4) 1) (v I 3)))))
 (.guard (lt (f (s (ix (v (L T4) 1) (v I 3)))) (ln (v (L I) 0)))
 (.guard (le (c 0) (v I 3))
 (.guard (lt (v I 3) (ln (v (L I) 4)))
 (.jump 0 [a (v (L I) 0),a (v (L T4) 1),a (v I 2),a (v I 3),a (st (v (L I) 4) (v I 3) (ix (v (L I) 0) (f (s (ix (v (L T4) 1) (v I 3))))))])))))
 (.guard (le (c 0) (f (s (s (ix (v (L T4) 1) (v I 3))))))
 (.guard (lt (f (s (s (ix (v (L T4) 1) (v I 3))))) (ln (v (L I) 4)))
 (.guard (le (c 0) (s (s (s (ix (v (L T4) 1) (v I 3))))))
 (.guard (lt (s (s (s (ix (v (L T4) 1) (v I 3))))) (ln (v (L I) 4)))
 (.call f_impl_do [a (f (ix (v (L T4) 1) (v I 3))),a (ix (v (L I) 4) (f (s (s (ix (v (L T4) 1) (v I 3)))))),a (ix (v (L I) 4) (s (s (s (ix (v (L T4) 1) (v I 3))))))] 1734
 (.guard (le (c 0) (v I 3))
 (.guard (lt (v I 3) (ln (v (L I) 4)))
 (.jump 0 [a (v (L I) 0),a (v (L T4) 1),a (v I 2),a (v I 3),a (st (v (L I) 4) (v I 3) (v I 1734))]))))))))))))
 (.jump 0 [a (v (L I) 0),a (v (L T4) 1),a (v I 2),a (add (v I 3) (c 1)),a (v (L I) 4)]))
 (.guard (le (c 0) (sub (ln (v (L I) 4)) (c 1)))
 (.guard (lt (sub (ln (v (L I) 4)) (c 1)) (ln (v (L I) 4)))
 (.ret [a (ix (v (L I) 4) (sub (ln (v (L I) 4)) (c 1)))]))))))
def tr_impl_clone_int:Tr:=.ite (eq (ln (v (L I) 0)) (c 0))
 (.ret [a (nl I)])
 (.guard (le (c 0) (ln (v (L I) 0)))
 (.guard (le (ln (v (L I) 0)) (c 549755813888))
 (.ret [a (over (rep (ln (v (L I) 0)) (z I)) (v (L I) 0))])))
def tr_impl_inRange:Tr:=.ite (ne (ln (v (L I) 2)) (ln (v (L V3) 0)))
 (.ret [a (k false)])
 (.loop [a (v (L I) 2),a (v (L V3) 0),a (ln (v (L V3) 0)),a (c 0)]
 (.ite (lt (v I 3) (v I 2))
 (.guard (le (c 0) (v I 3))
 (.guard (lt (v I 3) (ln (v (L V3) 1)))
 (.guard (le (c 0) (v I 3))
 (.guard (lt (v I 3) (ln (v (L I) 0)))
 (.call f_impl_in [a (ix (v (L I) 0) (v I 3)),a (f (ix (v (L V3) 1) (v I 3))),a (f (s (ix (v (L V3) 1) (v I 3))))] 964
 (.ite (nt (v B 964))
 (.ret [a (k false)])
 (.jump 0 [a (v (L I) 0),a (v (L V3) 1),a (v I 2),a (add (v I 3) (c 1))])))))))
 (.ret [a (k true)])))
def tr_impl_use:Tr:=.guard (le (c 0) (v I 3))
 (.guard (lt (v I 3) (ln (v (L TR) 1)))
 (.call f_impl_eval [a (f (ix (v (L TR) 1) (v I 3))),a (v (L I) 2)] 100832
 (.ite (eq (v I 100832) (c 0))
 (.ret [a (nl I),a (k false)])
 (.call f_impl_clone_int [a (v (L I) 2)] 101024
 (.loop [a (v (L I) 2),a (f (s (ix (v (L TR) 1) (v I 3)))),a (ln (f (s (ix (v (L TR) 1) (v I 3))))),a (c 0),a (v (L V3) 0),a (v (L TR) 1),a (f (ix (v (L TR) 1) (v I 3))),a (f (s (ix (v (L TR) 1) (v I 3)))),a (s (s (ix (v (L TR) 1) (v I 3)))),a (v (L I) 101024)]
 (.ite (lt (v I 3) (v I 2))
 (.guard (le (c 0) (v I 3))
 (.guard (lt (v I 3) (ln (v (L I) 1)))
 (.guard (le (c 0) (v I 3))
 (.guard (lt (v I 3) (ln (v (L (L T4)) 8)))
 (.call f_impl_eval [a (ix (v (L (L T4)) 8) (v I 3)),a (v (L I) 0)] 909
 (.guard (le (c 0) (ix (v (L I) 1) (v I 3)))
 (.guard (lt (ix (v (L I) 1) (v I 3)) (ln (v (L I) 9)))
 (.jump 0 [a (v (L I) 0),a (v (L I) 1),a (v I 2),a (add (v I 3) (c 1)),a (v (L V3) 4),a (v (L TR) 5),a (v (L T4) 6),a (v (L I) 7),a (v (L (L T4)) 8),a (st (v (L I) 9) (ix (v (L I) 1) (v I 3)) (v I 909))]))))))))
 (.call f_impl_inRange [a (v (L V3) 4),a (v (L TR) 5),a (v (L I) 9)] 205
 (.ite (nt (v B 205))
 (.ret [a (nl I),a (k false)])
 (.ret [a (v (L I) 9),a (k true)])))))))))
def tr_cmp_isNaN_int:Tr:=.ret [a (ne (v I 0) (v I 0))]
def tr_cmp_Compare_int:Tr:=.call f_cmp_isNaN_int [a (v I 0)] 100128
 (.call f_cmp_isNaN_int [a (v I 1)] 100320
 (.ite (v B 100128)
 (.ite (v B 100320)
 (.ret [a (c 0)])
 (.ret [a (c (-1))]))
 (.ite (v B 100320)
 (.ret [a (c 1)])
 (.ite (lt (v I 0) (v I 1))
 (.ret [a (c (-1))])
 (.ite (gt (v I 0) (v I 1))
 (.ret [a (c 1)])
 (.ret [a (c 0)]))))))
def tr_slices_Compare_Sint_int:Tr:=.loop [a (v (L I) 0),a (v (L I) 1),a (v (L I) 0),a (ln (v (L I) 0)),a (c 0)]
 (.ite (lt (v I 4) (v I 3))
 (.guard (le (c 0) (v I 4))
 (.guard (lt (v I 4) (ln (v (L I) 2)))
 (.ite (ge (v I 4) (ln (v (L I) 1)))
 (.ret [a (c 1)])
 (.guard (le (c 0) (v I 4))
 (.guard (lt (v I 4) (ln (v (L I) 1)))
 (.call f_cmp_Compare_int [a (ix (v (L I) 2) (v I 4)),a (ix (v (L I) 1) (v I 4))] 1093
 (.ite (ne (v I 1093) (c 0))
 (.ret [a (v I 1093)])
 (.jump 0 [a (v (L I) 0),a (v (L I) 1),a (v (L I) 2),a (v I 3),a (add (v I 4) (c 1))]))))))))
 (.ite (lt (ln (v (L I) 0)) (ln (v (L I) 1)))
 (.ret [a (c (-1))])
 (.ret [a (c 0)])))
def tr_slices_Reverse_SSint_Sint:Tr:=.loop [a (c 0),a (sub (ln (v (L (L I)) 0)) (c 1)),a (v (L (L I)) 0)]
 (.ite (lt (v I 0) (v I 1))
 (.guard (le (c 0) (v I 1))
 (.guard (lt (v I 1) (ln (v (L (L I)) 2)))
 (.guard (le (c 0) (v I 0))
 (.guard (lt (v I 0) (ln (v (L (L I)) 2)))
 (.guard (le (c 0) (v I 0))
 (.guard (lt (v I 0) (ln (v (L (L I)) 2)))
 (.guard (le (c 0) (v I 1))
 (.guard (lt (v I 1) (ln (st (v (L (L I)) 2) (v I 0) (ix (v (L (L I)) 2) (v I 1)))))
 (.jump 0 [a (add (v I 0) (c 1)),a (sub (v I 1) (c 1)),a (st (st (v (L (L I)) 2) (v I 0) (ix (v (L (L I)) 2) (v I 1))) (v I 1) (ix (v (L (L I)) 2) (v I 0)))])))))))))
 (.ret []))
def tr_impl_clone_Sint:Tr:=.ite (eq (ln (v (L (L I)) 0)) (c 0))
 (.ret [a (nl (L I))])
 (.guard (le (c 0) (ln (v (L (L I)) 0)))
 (.guard (le (ln (v (L (L I)) 0)) (c 549755813888))
 (.ret [a (over (rep (ln (v (L (L I)) 0)) (z (L I))) (v (L (L I)) 0))])))
def tr_impl_nextStates:Tr:=.loop [a (v (L I) 2),a (ln (v (L TR) 1)),a (c 0),a (v (L V3) 0),a (v (L TR) 1),a (nl (L I))]
 (.ite (lt (v I 2) (v I 1))
 (.join
 (.call f_impl_use [a (v (L V3) 3),a (v (L TR) 4),a (v (L I) 0),a (v I 2)] 392
 (.ite (v B 393)
 (.join
 (.loop [a (ln (v (L (L I)) 5)),a (c 0),a (ln (v (L (L I)) 5)),a (v (L I) 0),a (v I 1),a (v I 2),a (v (L (L I)) 5),a (v (L I) 392),a (v (L V3) 3),a (v (L TR) 4)]
 (.ite (lt (v I 1) (v I 2))
 (.guard (le (c 0) (.o1 (.conv .u64 .i64) (.o2 (.sh false .u64 .u64) (.o1 (.conv .i64 .u64) (add (v I 1) (v I 2))) (.int .u64 1))))
 (.guard (lt (.o1 (.conv .u64 .i64) (.o2 (.sh false .u64 .u64) (.o1 (.conv .i64 .u64) (add (v I 1) (v I 2))) (.int .u64 1))) (ln (v (L (L I)) 6)))
 (.call f_slices_Compare_Sint_int [a (ix (v (L (L I)) 6) (.o1 (.conv .u64 .i64) (.o2 (.sh false .u64 .u64) (.o1 (.conv .i64 .u64) (add (v I 1) (v I 2))) (.int .u64 1)))),a (v (L I) 7)] 1037
 (.ite (lt (v I 1037) (c 0))
 (.jump 0 [a (v I 0),a (add (.o1 (.conv .u64 .i64) (.o2 (.sh false .u64 .u64) (.o1 (.conv .i64 .u64) (add (v I 1) (v I 2))) (.int .u64 1))) (c 1)),a (v I 2),a (v (L I) 3),a (v I 4),a (v I 5),a (v (L (L I)) 6),a (v (L I) 7),a (v (L V3) 8),a (v (L TR) 9)])
 (.jump 0 [a (v I 0),a (v I 1),a (.o1 (.conv .u64 .i64) (.o2 (.sh false .u64 .u64) (.o1 (.conv .i64 .u64) (add (v I 1) (v I 2))) (.int .u64 1))),a (v (L I) 3),a (v I 4),a (v I 5),a (v (L (L I)) 6),a (v (L I) 7),a (v (L V3) 8),a (v (L TR) 9)])))))
 (.ite (lt (v I 1) (v I 0))
 (.guard (le (c 0) (v I 1))
 (.guard (lt (v I 1) (ln (v (L (L I)) 6)))
 (.call f_slices_Compare_Sint_int [a (ix (v (L (L I)) 6) (v I 1)),a (v (L I) 7)] 909
 (.jump 1 [a (v (L I) 3),a (v I 1),a (eq (v I 909) (c 0)),a (v I 4),a (v I 5),a (v (L V3) 8),a (v (L TR) 9),a (v (L (L I)) 6),a (v (L I) 7)]))))
 (.jump 1 [a (v (L I) 3),a (v I 1),a (k false),a (v I 4),a (v I 5),a (v (L V3) 8),a (v (L TR) 9),a (v (L (L I)) 6),a (v (L I) 7)]))))
 (.ite (nt (v B 2))
 (.guard (le (c 0) (v I 1))
 (.guard (le (v I 1) (ln (v (L (L I)) 7)))
 (.guard (le (ln (v (L (L I)) 7)) (c 549755813888))
 (.guard (eq (ln (one (v (L I) 8))) (c 1))
 (.jump 0 [a (v (L I) 0),a (v I 3),a (v I 4),a (v (L V3) 5),a (v (L TR) 6),a (app (app (take (v (L (L I)) 7) (v I 1)) (one (v (L I) 8))) (drop (v (L (L I)) 7) (v I 1)))])))))
 (.jump 0 [a (v (L I) 0),a (v I 3),a (v I 4),a (v (L V3) 5),a (v (L TR) 6),a (v (L (L I)) 7)])))
 (.jump 0 [a (v (L I) 0),a (v I 1),a (v I 2),a (v (L V3) 3),a (v (L TR) 4),a (v (L (L I)) 5)])))
 (.jump 0 [a (v (L I) 0),a (v I 1),a (add (v I 2) (c 1)),a (v (L V3) 3),a (v (L TR) 4),a (v (L (L I)) 5)]))
 (.call f_impl_clone_Sint [a (v (L (L I)) 5)] 136
 (.ret [a (v (L (L I)) 136)])))
def tr_impl_number:Tr:=.loop [a (v (L I) 2),a (c 0),a (v (L V3) 0),a (ln (v (L V3) 0)),a (c 0)]
 (.ite (lt (v I 4) (v I 3))
 (.guard (le (c 0) (v I 4))
 (.guard (lt (v I 4) (ln (v (L V3) 2)))
 (.guard (le (c 0) (v I 4))
 (.guard (lt (v I 4) (ln (v (L I) 0)))
 (.jump 0 [a (v (L I) 0),a (sub (add (mul (v I 1) (add (sub (f (s (ix (v (L V3) 2) (v I 4)))) (f (ix (v (L V3) 2) (v I 4)))) (c 1))) (ix (v (L I) 0) (v I 4))) (f (ix (v (L V3) 2) (v I 4)))),a (v (L V3) 2),a (v I 3),a (add (v I 4) (c 1))])))))
 (.ret [a (v I 1)]))
def tr_impl_nexts:Tr:=.call f_impl_size [a (v (L V3) 0)] 100256
 (.guard (le (c 0) (v I 100256))
 (.guard (le (v I 100256) (c 549755813888))
 (.loop [a (ln (rep (v I 100256) (z (L I)))),a (c 0),a (v (L V3) 0),a (v (L TR) 1),a (rep (v I 100256) (z (L I)))]
 (.ite (lt (v I 1) (v I 0))
 (.call f_impl_stateAt [a (v (L V3) 2),a (v (L TR) 3),a (v I 1)] 455
 (.call f_impl_nextStates [a (v (L V3) 2),a (v (L TR) 3),a (v (L I) 455)] 519
 (.loop [a (v I 1),a (v I 0),a (v I 1),a (ln (v (L (L I)) 519)),a (c 0),a (v (L V3) 2),a (v (L TR) 3),a (v (L (L I)) 4),a (v (L (L I)) 519)]
 (.ite (lt (v I 4) (v I 3))
 (.guard (le (c 0) (v I 4))
 (.guard (lt (v I 4) (ln (v (L (L I)) 8)))
 (.guard (le (c 0) (v I 0))
 (.guard (lt (v I 0) (ln (v (L (L I)) 7)))
 (.call f_impl_number [a (v (L V3) 5),a (v (L TR) 6),a (ix (v (L (L I)) 8) (v I 4))] 780
 (.guard (le (ln (ix (v (L (L I)) 7) (v I 0))) (c 549755813888))
 (.guard (le (ln (one (v I 780))) (c 549755813888))
 (.guard (le (c 0) (v I 0))
 (.guard (lt (v I 0) (ln (v (L (L I)) 7)))
 (.jump 0 [a (v I 0),a (v I 1),a (v I 2),a (v I 3),a (add (v I 4) (c 1)),a (v (L V3) 5),a (v (L TR) 6),a (st (v (L (L I)) 7) (v I 0) (app (ix (v (L (L I)) 7) (v I 0)) (one (v I 780)))),a (v (L (L I)) 8)]))))))))))
 (.jump 1 [a (v I 1),a (add (v I 2) (c 1)),a (v (L V3) 5),a (v (L TR) 6),a (v (L (L I)) 7)])))))
 (.ret [a (v (L (L I)) 4)])))))
def tr_math_bits_Mul32:Tr:=.ret [a (.o1 (.conv .u64 .u32) (.o2 (.sh false .u64 .u64) (ar .mul (.o1 (.conv .u32 .u64) (v (.int .u32) 0)) (.o1 (.conv .u32 .u64) (v (.int .u32) 1))) (.int .u64 32))),a (.o1 (.conv .u64 .u32) (ar .mul (.o1 (.conv .u32 .u64) (v (.int .u32) 0)) (.o1 (.conv .u32 .u64) (v (.int .u32) 1))))]
def tr_math_bits_Mul64:Tr:=.ret [a (ar .add (ar .add (ar .mul (.o2 (.sh false .u64 .u64) (v (.int .u64) 0) (.int .u64 32)) (.o2 (.sh false .u64 .u64) (v (.int .u64) 1) (.int .u64 32))) (.o2 (.sh false .u64 .u64) (ar .add (ar .mul (.o2 (.sh false .u64 .u64) (v (.int .u64) 0) (.int .u64 32)) (ar .and (v (.int .u64) 1) (.int .u64 4294967295))) (.o2 (.sh false .u64 .u64) (ar .mul (ar .and (v (.int .u64) 0) (.int .u64 4294967295)) (ar .and (v (.int .u64) 1) (.int .u64 4294967295))) (.int .u64 32))) (.int .u64 32))) (.o2 (.sh false .u64 .u64) (ar .add (ar .and (ar .add (ar .mul (.o2 (.sh false .u64 .u64) (v (.int .u64) 0) (.int .u64 32)) (ar .and (v (.int .u64) 1) (.int .u64 4294967295))) (.o2 (.sh false .u64 .u64) (ar .mul (ar .and (v (.int .u64) 0) (.int .u64 4294967295)) (ar .and (v (.int .u64) 1) (.int .u64 4294967295))) (.int .u64 32))) (.int .u64 4294967295)) (ar .mul (ar .and (v (.int .u64) 0) (.int .u64 4294967295)) (.o2 (.sh false .u64 .u64) (v (.int .u64) 1) (.int .u64 32)))) (.int .u64 32))),a (ar .mul (v (.int .u64) 0) (v (.int .u64) 1))]
def tr_math_bits_Mul:Tr:=.call f_math_bits_Mul64 [a (v (.int .u64) 0),a (v (.int .u64) 1)] 100256
 (.ret [a (v (.int .u64) 100256),a (v (.int .u64) 100257)])
def tr_slices_Repeat_Sint_int:Tr:=.ite (lt (v I 1) (c 0))
 (.bad)
 (.call f_math_bits_Mul [a (.o1 (.conv .i64 .u64) (ln (v (L I) 0))),a (.o1 (.conv .i64 .u64) (v I 1))] 100512
 (.ite (cm .gtr (v (.int .u64) 100512) (.int .u64 0))
 (.bad)
 (.ite (cm .gtr (v (.int .u64) 100513) (.int .u64 9223372036854775807))
 (.bad)
 (.guard (le (c 0) (.o1 (.conv .u64 .i64) (v (.int .u64) 100513)))
 (.guard (le (.o1 (.conv .u64 .i64) (v (.int .u64) 100513)) (c 549755813888))
 (.loop [a (.o2 (.mn .i64) (ln (v (L I) 0)) (ln (rep (.o1 (.conv .u64 .i64) (v (.int .u64) 100513)) (z I)))),a (over (rep (.o1 (.conv .u64 .i64) (v (.int .u64) 100513)) (z I)) (v (L I) 0))]
 (.ite (lt (v I 0) (ln (v (L I) 1)))
 (.guard (le (c 0) (v I 0))
 (.guard (le (v I 0) (ln (v (L I) 1)))
 (.guard (le (v I 0) (ln (v (L I) 1)))
 (.guard (le (c 0) (v I 0))
 (.join
 (.jump 0 [a (add (v I 0) (.o2 (.mn .i64) (ln (drop (take (v (L I) 1) (v I 0)) (c 0))) (ln (drop (take (v (L I) 1) (ln (v (L I) 1))) (v I 0))))),a (app (app (take (v (L I) 1) (v I 0)) (over (drop (take (v (L I) 1) (ln (v (L I) 1))) (v I 0)) (drop (take (v (L I) 1) (v I 0)) (c 0)))) (drop (v (L I) 1) (ln (v (L I) 1))))])
 (.jump 0 [a (v I 0),a (v (L I) 1)]))))))
 (.ret [a (v (L I) 1)]))))))))
def tr_impl_fairnessOf:Tr:=.call f_impl_nexts [a (v (L V3) 0),a (v (L TR) 1)] 100384
 (.loop [a (ln (v (L TR) 1)),a (c 0),a (v (L V3) 0),a (v (L TR) 1),a (v (L V3) 0),a (v (L TR) 1),a (v (L I) 2),a (v (L I) 3),a (v (L (L I)) 100384),a (nl (L I))]
 (.ite (lt (v I 1) (v I 0))
 (.call f_slices_Repeat_Sint_int [a (one (c (-1))),a (ln (v (L (L I)) 8))] 590
 (.loop [a (v I 1),a (v I 0),a (v I 1),a (ln (v (L I) 590)),a (c 0),a (v (L V3) 2),a (v (L TR) 3),a (v (L V3) 4),a (v (L TR) 5),a (v (L I) 6),a (v (L I) 7),a (v (L (L I)) 8),a (v (L (L I)) 9),a (v (L I) 590)]
 (.ite (lt (v I 4) (v I 3))
 (.join
 (.call f_impl_stateAt [a (v (L V3) 5),a (v (L TR) 6),a (v I 4)] 467
 (.call f_impl_use [a (v (L V3) 5),a (v (L TR) 6),a (v (L I) 467),a (v I 0)] 531
 (.ite (v B 532)
 (.call f_impl_number [a (v (L V3) 5),a (v (L TR) 6),a (v (L I) 531)] 1235
 (.guard (le (c 0) (v I 4))
 (.guard (lt (v I 4) (ln (v (L I) 13)))
 (.jump 0 [a (v I 0),a (v I 1),a (v I 2),a (v I 3),a (v I 4),a (v (L V3) 5),a (v (L TR) 6),a (v (L V3) 7),a (v (L TR) 8),a (v (L I) 9),a (v (L I) 10),a (v (L (L I)) 11),a (v (L (L I)) 12),a (st (v (L I) 13) (v I 4) (v I 1235))]))))
 (.jump 0 [a (v I 0),a (v I 1),a (v I 2),a (v I 3),a (v I 4),a (v (L V3) 5),a (v (L TR) 6),a (v (L V3) 7),a (v (L TR) 8),a (v (L I) 9),a (v (L I) 10),a (v (L (L I)) 11),a (v (L (L I)) 12),a (v (L I) 13)]))))
 (.jump 0 [a (v I 0),a (v I 1),a (v I 2),a (v I 3),a (add (v I 4) (c 1)),a (v (L V3) 5),a (v (L TR) 6),a (v (L V3) 7),a (v (L TR) 8),a (v (L I) 9),a (v (L I) 10),a (v (L (L I)) 11),a (v (L (L I)) 12),a (v (L I) 13)]))
 (.guard (le (ln (v (L (L I)) 12)) (c 549755813888))
 (.guard (le (ln (one (v (L I) 13))) (c 549755813888))
 (.jump 1 [a (v I 1),a (add (v I 2) (c 1)),a (v (L V3) 5),a (v (L TR) 6),a (v (L V3) 7),a (v (L TR) 8),a (v (L I) 9),a (v (L I) 10),a (v (L (L I)) 11),a (app (v (L (L I)) 12) (one (v (L I) 13)))]))))))
 (.ret [a (pr (pr (v (L V3) 4) (v (L TR) 5)) (pr (v (L (L I)) 8) (pr (v (L I) 6) (pr (v (L I) 7) (v (L (L I)) 9)))))])))
def tr_slices_Index_Sint_int:Tr:=.loop [a (v (L I) 0),a (v I 1),a (ln (v (L I) 0)),a (c 0)]
 (.ite (lt (v I 3) (v I 2))
 (.guard (le (c 0) (v I 3))
 (.guard (lt (v I 3) (ln (v (L I) 0)))
 (.ite (eq (v I 1) (ix (v (L I) 0) (v I 3)))
 (.ret [a (v I 3)])
 (.jump 0 [a (v (L I) 0),a (v I 1),a (v I 2),a (add (v I 3) (c 1))]))))
 (.ret [a (c (-1))]))
def tr_slices_Min_Sint_int:Tr:=.ite (lt (ln (v (L I) 0)) (c 1))
 (.bad)
 (.guard (lt (c 0) (ln (v (L I) 0)))
 (.loop [a (v (L I) 0),a (ix (v (L I) 0) (c 0)),a (c 1)]
 (.ite (lt (v I 2) (ln (v (L I) 0)))
 (.guard (le (c 0) (v I 2))
 (.guard (lt (v I 2) (ln (v (L I) 0)))
 (.jump 0 [a (v (L I) 0),a (.o2 (.mn .i64) (v I 1) (ix (v (L I) 0) (v I 2))),a (add (v I 2) (c 1))])))
 (.ret [a (v I 1)]))))
end Go.Proofs.YtknlennollmgeaaGreat
namespace Go.Proofs.YtknlennollmgeaaGreat
open Go Go.Sm Go.Sm.Q
def tr_impl_tarjan_1:Tr:=.guard (le (c 0) (v I 0))
 (.guard (lt (v I 0) (ln (v (L I) 2)))
 (.guard (le (c 0) (v I 0))
 (.guard (lt (v I 0) (ln (v (L I) 3)))
 (.join
 (.jump 0 [a (v I 0),a (add (v I 1) (c 1)),a (v (L (L I)) 5),a (v (L B) 6),a (st (v (L I) 2) (v I 0) (add (v I 1) (c 1))),a (st (v (L I) 3) (v I 0) (add (v I 1) (c 1))),a (v (L I) 4),a (v (L I) 8)])
 (.guard (le (ln (v (L I) 6)) (c 549755813888))
 (.guard (le (ln (one (v I 0))) (c 549755813888))
 (.guard (le (c 0) (v I 0))
 (.guard (lt (v I 0) (ln (v (L (L I)) 2)))
 (.loop [a (v I 0),a (ix (v (L (L I)) 2) (v I 0)),a (ln (ix (v (L (L I)) 2) (v I 0))),a (c 0),a (v I 1),a (v (L (L I)) 2),a (v (L B) 3),a (v (L I) 4),a (v (L I) 5),a (app (v (L I) 6) (one (v I 0))),a (v (L I) 7)]
 (.ite (lt (v I 3) (v I 2))
 (.join
 (.guard (le (c 0) (v I 3))
 (.guard (lt (v I 3) (ln (v (L I) 1)))
 (.guard (le (c 0) (ix (v (L I) 1) (v I 3)))
 (.guard (lt (ix (v (L I) 1) (v I 3)) (ln (v (L B) 6)))
 (.ite (nt (ix (v (L B) 6) (ix (v (L I) 1) (v I 3))))
 (.jump 0 [a (v I 0),a (v (L I) 1),a (v I 2),a (v I 3),a (v I 4),a (v (L (L I)) 5),a (v (L B) 6),a (v (L I) 7),a (v (L I) 8),a (v (L I) 9),a (v (L I) 10)])
 (.guard (le (c 0) (ix (v (L I) 1) (v I 3)))
 (.guard (lt (ix (v (L I) 1) (v I 3)) (ln (v (L I) 7)))
 (.ite (eq (ix (v (L I) 7) (ix (v (L I) 1) (v I 3))) (c 0))
 (.call f_impl_tarjan_1 [a (ix (v (L I) 1) (v I 3)),a (v I 4),a (v (L I) 7),a (v (L I) 8),a (v (L I) 9),a (v (L (L I)) 5),a (v (L B) 6),a (k true),a (v (L I) 10)] 1047
 (.guard (le (c 0) (v I 0))
 (.guard (lt (v I 0) (ln (v (L I) 1049)))
 (.guard (le (c 0) (ix (v (L I) 1) (v I 3)))
 (.guard (lt (ix (v (L I) 1) (v I 3)) (ln (v (L I) 1049)))
 (.guard (le (c 0) (v I 0))
 (.guard (lt (v I 0) (ln (v (L I) 1049)))
 (.jump 0 [a (v I 0),a (v (L I) 1),a (v I 2),a (v I 3),a (v I 1047),a (v (L (L I)) 5),a (v (L B) 6),a (v (L I) 1048),a (st (v (L I) 1049) (v I 0) (.o2 (.mn .i64) (ix (v (L I) 1049) (v I 0)) (ix (v (L I) 1049) (ix (v (L I) 1) (v I 3))))),a (v (L I) 1050),a (v (L I) 1054)]))))))))
 (.guard (le (c 0) (ix (v (L I) 1) (v I 3)))
 (.guard (lt (ix (v (L I) 1) (v I 3)) (ln (v (L I) 10)))
 (.ite (lt (ix (v (L I) 10) (ix (v (L I) 1) (v I 3))) (c 0))
 (.guard (le (c 0) (v I 0))
 (.guard (lt (v I 0) (ln (v (L I) 8)))
 (.guard (le (c 0) (ix (v (L I) 1) (v I 3)))
 (.guard (lt (ix (v (L I) 1) (v I 3)) (ln (v (L I) 7)))
 (.guard (le (c 0) (v I 0))
 (.guard (lt (v I 0) (ln (v (L I) 8)))
 (.jump 0 [a (v I 0),a (v (L I) 1),a (v I 2),a (v I 3),a (v I 4),a (v (L (L I)) 5),a (v (L B) 6),a (v (L I) 7),a (st (v (L I) 8) (v I 0) (.o2 (.mn .i64) (ix (v (L I) 8) (v I 0)) (ix (v (L I) 7) (ix (v (L I) 1) (v I 3))))),a (v (L I) 9),a (v (L I) 10)])))))))
 (.jump 0 [a (v I 0),a (v (L I) 1),a (v I 2),a (v I 3),a (v I 4),a (v (L (L I)) 5),a (v (L B) 6),a (v (L I) 7),a (v (L I) 8),a (v (L I) 9),a (v (L I) 10)]))))))))))))
 (.jump 0 [a (v I 0),a (v (L I) 1),a (v I 2),a (add (v I 3) (c 1)),a (v I 4),a (v (L (L I)) 5),a (v (L B) 6),a (v (L I) 7),a (v (L I) 8),a (v (L I) 9),a (v (L I) 10)]))
 (.guard (le (c 0) (v I 0))
 (.guard (lt (v I 0) (ln (v (L I) 8)))
 (.guard (le (c 0) (v I 0))
 (.guard (lt (v I 0) (ln (v (L I) 7)))
 (.ite (ne (ix (v (L I) 8) (v I 0)) (ix (v (L I) 7) (v I 0)))
 (.ret [a (v I 4),a (v (L I) 7),a (v (L I) 8),a (v (L I) 9),a (v (L (L I)) 5),a (v (L B) 6),a (k true),a (v (L I) 10)])
 (.call f_slices_Index_Sint_int [a (v (L I) 9),a (v I 0)] 791
 (.guard (le (c 0) (v I 791))
 (.guard (le (v I 791) (ln (v (L I) 9)))
 (.call f_slices_Min_Sint_int [a (drop (take (v (L I) 9) (ln (v (L I) 9))) (v I 791))] 1111
 (.guard (le (c 0) (v I 791))
 (.guard (le (v I 791) (ln (v (L I) 9)))
 (.loop [a (v I 791),a (v I 1111),a (v I 791),a (ln (v (L I) 9)),a (ln (drop (take (v (L I) 9) (ln (v (L I) 9))) (v I 791))),a (c 0),a (v I 4),a (v (L (L I)) 5),a (v (L B) 6),a (v (L I) 7),a (v (L I) 8),a (v (L I) 9),a (v (L I) 10)]
 (.ite (lt (v I 5) (v I 4))
 (.guard (le (c 0) (v I 5))
 (.guard (lt (v I 5) (ln (drop (take (v (L I) 11) (v I 3)) (v I 2))))
 (.guard (le (v I 3) (c 549755813888))
 (.guard (le (c 0) (ix (v (L I) 11) (add (v I 2) (v I 5))))
 (.guard (lt (ix (v (L I) 11) (add (v I 2) (v I 5))) (ln (v (L I) 12)))
 (.jump 0 [a (v I 0),a (v I 1),a (v I 2),a (v I 3),a (v I 4),a (add (v I 5) (c 1)),a (v I 6),a (v (L (L I)) 7),a (v (L B) 8),a (v (L I) 9),a (v (L I) 10),a (v (L I) 11),a (st (v (L I) 12) (ix (v (L I) 11) (add (v I 2) (v I 5))) (v I 1))]))))))
 (.guard (le (v I 0) (ln (v (L I) 11)))
 (.guard (le (c 0) (v I 0))
 (.ret [a (v I 6),a (v (L I) 9),a (v (L I) 10),a (take (v (L I) 11) (v I 0)),a (v (L (L I)) 7),a (v (L B) 8),a (k true),a (v (L I) 12)]))))))))))))))))))))))))))
def tr_impl_tarjan:Tr:=.guard (le (c 0) (ln (v (L (L I)) 0)))
 (.guard (le (ln (v (L (L I)) 0)) (c 549755813888))
 (.guard (le (c 0) (ln (v (L (L I)) 0)))
 (.guard (le (ln (v (L (L I)) 0)) (c 549755813888))
 (.join
 (.jump 0 [a (v (L (L I)) 0),a (v (L B) 1),a (rep (ln (v (L (L I)) 0)) (z I)),a (rep (ln (v (L (L I)) 0)) (z I))])
 (.call f_slices_Repeat_Sint_int [a (one (c (-1))),a (ln (v (L (L I)) 0))] 202
 (.loop [a (ln (v (L (L I)) 0)),a (c 0),a (v (L B) 1),a (v (L I) 2),a (v (L I) 202),a (nl I),a (c 0),a (v (L I) 3),a (v (L (L I)) 0)]
 (.ite (lt (v I 1) (v I 0))
 (.join
 (.guard (le (c 0) (v I 1))
 (.guard (lt (v I 1) (ln (v (L B) 2)))
 (.ite (ix (v (L B) 2) (v I 1))
 (.guard (le (c 0) (v I 1))
 (.guard (lt (v I 1) (ln (v (L I) 3)))
 (.ite (eq (ix (v (L I) 3) (v I 1)) (c 0))
 (.call f_impl_tarjan_1 [a (v I 1),a (v I 6),a (v (L I) 3),a (v (L I) 7),a (v (L I) 5),a (v (L (L I)) 8),a (v (L B) 2),a (k true),a (v (L I) 4)] 1045
 (.jump 0 [a (v I 0),a (v I 1),a (v (L B) 2),a (v (L I) 1046),a (v (L I) 1052),a (v (L I) 1048),a (v I 1045),a (v (L I) 1047),a (v (L (L I)) 8)]))
 (.jump 0 [a (v I 0),a (v I 1),a (v (L B) 2),a (v (L I) 3),a (v (L I) 4),a (v (L I) 5),a (v I 6),a (v (L I) 7),a (v (L (L I)) 8)]))))
 (.jump 0 [a (v I 0),a (v I 1),a (v (L B) 2),a (v (L I) 3),a (v (L I) 4),a (v (L I) 5),a (v I 6),a (v (L I) 7),a (v (L (L I)) 8)]))))
 (.jump 0 [a (v I 0),a (add (v I 1) (c 1)),a (v (L B) 2),a (v (L I) 3),a (v (L I) 4),a (v (L I) 5),a (v I 6),a (v (L I) 7),a (v (L (L I)) 8)]))
 (.ret [a (v (L I) 4)]))))))))
def tr_impl_listOf:Tr:=.loop [a (v (L B) 0),a (ln (v (L B) 0)),a (c 0),a (nl I)]
 (.ite (lt (v I 2) (v I 1))
 (.join
 (.guard (le (c 0) (v I 2))
 (.guard (lt (v I 2) (ln (v (L B) 0)))
 (.ite (ix (v (L B) 0) (v I 2))
 (.guard (le (ln (v (L I) 3)) (c 549755813888))
 (.guard (le (ln (one (v I 2))) (c 549755813888))
 (.jump 0 [a (v (L B) 0),a (v I 1),a (v I 2),a (app (v (L I) 3) (one (v I 2)))])))
 (.jump 0 [a (v (L B) 0),a (v I 1),a (v I 2),a (v (L I) 3)]))))
 (.jump 0 [a (v (L B) 0),a (v I 1),a (add (v I 2) (c 1)),a (v (L I) 3)]))
 (.call f_impl_clone_int [a (v (L I) 3)] 133
 (.ret [a (v (L I) 133)])))
def tr_slices_Contains_Sint_int:Tr:=.call f_slices_Index_Sint_int [a (v (L I) 0),a (v I 1)] 100192
 (.ret [a (ge (v I 100192) (c 0))])
def tr_impl_fairness_leads:Tr:=.loop [a (v I 1),a (v (L B) 2),a (v (L B) 2),a (ln (v (L B) 2)),a (c 0),a (f (f (v (P (P (L V3) (L TR)) (P (L (L I)) (P (L I) (P (L I) (L (L I)))))) 0))),a (s (f (v (P (P (L V3) (L TR)) (P (L (L I)) (P (L I) (P (L I) (L (L I)))))) 0))),a (f (s (v (P (P (L V3) (L TR)) (P (L (L I)) (P (L I) (P (L I) (L (L I)))))) 0))),a (f (s (s (v (P (P (L V3) (L TR)) (P (L (L I)) (P (L I) (P (L I) (L (L I)))))) 0)))),a (f (s (s (s (v (P (P (L V3) (L TR)) (P (L (L I)) (P (L I) (P (L I) (L (L I)))))) 0))))),a (s (s (s (s (v (P (P (L V3) (L TR)) (P (L (L I)) (P (L I) (P (L I) (L (L I)))))) 0)))))]
 (.ite (lt (v I 4) (v I 3))
 (.join
 (.guard (le (c 0) (v I 4))
 (.guard (lt (v I 4) (ln (v (L B) 2)))
 (.ite (ix (v (L B) 2) (v I 4))
 (.guard (le (c 0) (v I 0))
 (.guard (lt (v I 0) (ln (v (L (L I)) 10)))
 (.guard (le (c 0) (v I 4))
 (.guard (lt (v I 4) (ln (ix (v (L (L I)) 10) (v I 0))))
 (.ite (ge (ix (ix (v (L (L I)) 10) (v I 0)) (v I 4)) (c 0))
 (.guard (le (c 0) (v I 0))
 (.guard (lt (v I 0) (ln (v (L (L I)) 10)))
 (.guard (le (c 0) (v I 4))
 (.guard (lt (v I 4) (ln (ix (v (L (L I)) 10) (v I 0))))
 (.guard (le (c 0) (ix (ix (v (L (L I)) 10) (v I 0)) (v I 4)))
 (.guard (lt (ix (ix (v (L (L I)) 10) (v I 0)) (v I 4)) (ln (v (L B) 1)))
 (.ite (ix (v (L B) 1) (ix (ix (v (L (L I)) 10) (v I 0)) (v I 4)))
 (.ret [a (k true),a (pr (pr (v (L V3) 5) (v (L TR) 6)) (pr (v (L (L I)) 7) (pr (v (L I) 8) (pr (v (L I) 9) (v (L (L I)) 10)))))])
 (.jump 0 [a (v I 0),a (v (L B) 1),a (v (L B) 2),a (v I 3),a (v I 4),a (v (L V3) 5),a (v (L TR) 6),a (v (L (L I)) 7),a (v (L I) 8),a (v (L I) 9),a (v (L (L I)) 10)]))))))))
 (.jump 0 [a (v I 0),a (v (L B) 1),a (v (L B) 2),a (v I 3),a (v I 4),a (v (L V3) 5),a (v (L TR) 6),a (v (L (L I)) 7),a (v (L I) 8),a (v (L I) 9),a (v (L (L I)) 10)]))))))
 (.jump 0 [a (v I 0),a (v (L B) 1),a (v (L B) 2),a (v I 3),a (v I 4),a (v (L V3) 5),a (v (L TR) 6),a (v (L (L I)) 7),a (v (L I) 8),a (v (L I) 9),a (v (L (L I)) 10)]))))
 (.jump 0 [a (v I 0),a (v (L B) 1),a (v (L B) 2),a (v I 3),a (add (v I 4) (c 1)),a (v (L V3) 5),a (v (L TR) 6),a (v (L (L I)) 7),a (v (L I) 8),a (v (L I) 9),a (v (L (L I)) 10)]))
 (.ret [a (k false),a (pr (pr (v (L V3) 5) (v (L TR) 6)) (pr (v (L (L I)) 7) (pr (v (L I) 8) (pr (v (L I) 9) (v (L (L I)) 10)))))]))
def tr_slices_Clone_Sbool_bool:Tr:=.guard (nt (emp (v (L B) 0)))
 (.guard (le (ln (nl B)) (c 549755813888))
 (.guard (le (ln (v (L B) 0)) (c 549755813888))
 (.ret [a (app (nl B) (v (L B) 0))])))
def tr_impl_fairness_cores:Tr:=.call f_impl_tarjan [a (f (s (v (P (P (L V3) (L TR)) (P (L (L I)) (P (L I) (P (L I) (L (L I)))))) 0))),a (v (L B) 1)] 100512
 (.loop [a (ln (f (s (v (P (P (L V3) (L TR)) (P (L (L I)) (P (L I) (P (L I) (L (L I)))))) 0)))),a (c 0),a (f (f (v (P (P (L V3) (L TR)) (P (L (L I)) (P (L I) (P (L I) (L (L I)))))) 0))),a (s (f (v (P (P (L V3) (L TR)) (P (L (L I)) (P (L I) (P (L I) (L (L I)))))) 0))),a (f (s (v (P (P (L V3) (L TR)) (P (L (L I)) (P (L I) (P (L I) (L (L I)))))) 0))),a (f (s (s (v (P (P (L V3) (L TR)) (P (L (L I)) (P (L I) (P (L I) (L (L I)))))) 0)))),a (f (s (s (s (v (P (P (L V3) (L TR)) (P (L (L I)) (P (L I) (P (L I) (L (L I)))))) 0))))),a (s (s (s (s (v (P (P (L V3) (L TR)) (P (L (L I)) (P (L I) (P (L I) (L (L I)))))) 0))))),a (nl (L I)),a (v (L I) 100512)]
 (.ite (lt (v I 1) (v I 0))
 (.join
 (.guard (le (c 0) (v I 1))
 (.guard (lt (v I 1) (ln (v (L I) 9)))
 (.ite (ne (ix (v (L I) 9) (v I 1)) (v I 1))
 (.jump 0 [a (v I 0),a (v I 1),a (v (L V3) 2),a (v (L TR) 3),a (v (L (L I)) 4),a (v (L I) 5),a (v (L I) 6),a (v (L (L I)) 7),a (v (L (L I)) 8),a (v (L I) 9)])
 (.guard (le (c 0) (ln (v (L (L I)) 4)))
 (.guard (le (ln (v (L (L I)) 4)) (c 549755813888))
 (.loop [a (v I 1),a (v I 0),a (v I 1),a (ln (rep (ln (v (L (L I)) 4)) (z B))),a (c 0),a (v (L V3) 2),a (v (L TR) 3),a (v (L (L I)) 4),a (v (L I) 5),a (v (L I) 6),a (v (L (L I)) 7),a (v (L (L I)) 8),a (v (L I) 9),a (rep (ln (v (L (L I)) 4)) (z B))]
 (.ite (lt (v I 4) (v I 3))
 (.guard (le (c 0) (v I 4))
 (.guard (lt (v I 4) (ln (v (L I) 12)))
 (.guard (le (c 0) (v I 4))
 (.guard (lt (v I 4) (ln (v (L B) 13)))
 (.jump 0 [a (v I 0),a (v I 1),a (v I 2),a (v I 3),a (add (v I 4) (c 1)),a (v (L V3) 5),a (v (L TR) 6),a (v (L (L I)) 7),a (v (L I) 8),a (v (L I) 9),a (v (L (L I)) 10),a (v (L (L I)) 11),a (v (L I) 12),a (st (v (L B) 13) (v I 4) (eq (ix (v (L I) 12) (v I 4)) (v I 0)))])))))
 (.call f_impl_listOf [a (v (L B) 13)] 148
 (.join
 (.ite (eq (ln (v (L I) 148)) (c 1))
 (.guard (le (c 0) (v I 0))
 (.guard (lt (v I 0) (ln (v (L (L I)) 7)))
 (.ite (gt (ln (ix (v (L (L I)) 7) (v I 0))) (c 0))
 (.guard (le (c 0) (v I 0))
 (.guard (lt (v I 0) (ln (v (L (L I)) 7)))
 (.call f_slices_Contains_Sint_int [a (ix (v (L (L I)) 7) (v I 0)),a (v I 0)] 1812
 (.ite (nt (v B 1812))
 (.jump 2 [a (v I 1),a (v I 2),a (v (L V3) 5),a (v (L TR) 6),a (v (L (L I)) 7),a (v (L I) 8),a (v (L I) 9),a (v (L (L I)) 10),a (v (L (L I)) 11),a (v (L I) 12)])
 (.jump 0 [a (v I 1),a (v I 2),a (v (L V3) 5),a (v (L TR) 6),a (v (L (L I)) 7),a (v (L I) 8),a (v (L I) 9),a (v (L (L I)) 10),a (v (L (L I)) 11),a (v (L I) 12),a (v (L B) 13),a (v (L I) 148)])))))
 (.jump 0 [a (v I 1),a (v I 2),a (v (L V3) 5),a (v (L TR) 6),a (v (L (L I)) 7),a (v (L I) 8),a (v (L I) 9),a (v (L (L I)) 10),a (v (L (L I)) 11),a (v (L I) 12),a (v (L B) 13),a (v (L I) 148)]))))
 (.jump 0 [a (v I 1),a (v I 2),a (v (L V3) 5),a (v (L TR) 6),a (v (L (L I)) 7),a (v (L I) 8),a (v (L I) 9),a (v (L (L I)) 10),a (v (L (L I)) 11),a (v (L I) 12),a (v (L B) 13),a (v (L I) 148)]))
 (.join
 (.loop [a (v (L I) 5),a (ln (v (L I) 5)),a (c 0),a (v I 0),a (v I 1),a (v (L V3) 2),a (v (L TR) 3),a (v (L (L I)) 4),a (v (L I) 5),a (v (L I) 6),a (v (L (L I)) 7),a (v (L B) 10),a (v (L I) 11),a (v (L (L I)) 8),a (v (L I) 9)]
 (.ite (lt (v I 2) (v I 1))
 (.join
 (.guard (le (c 0) (v I 2))
 (.guard (lt (v I 2) (ln (v (L I) 0)))
 (.call f_impl_fairness_leads [a (pr (pr (v (L V3) 5) (v (L TR) 6)) (pr (v (L (L I)) 7) (pr (v (L I) 8) (pr (v (L I) 9) (v (L (L I)) 10))))),a (ix (v (L I) 0) (v I 2)),a (v (L B) 11)] 919
 (.ite (nt (v B 919))
 (.loop [a (ln (v (L I) 12)),a (c 0),a (v (L I) 0),a (v I 2),a (v I 1),a (v I 2),a (v I 3),a (v I 4),a (v (L V3) 5),a (v (L TR) 6),a (v (L (L I)) 7),a (v (L I) 8),a (v (L I) 9),a (v (L (L I)) 10),a (v (L I) 12),a (ix (v (L I) 0) (v I 2)),a (v (L B) 11),a (v (L (L I)) 13),a (v (L I) 14)]
 (.ite (lt (v I 1) (v I 0))
 (.guard (le (c 0) (v I 1))
 (.guard (lt (v I 1) (ln (v (L I) 14)))
 (.guard (le (c 0) (v I 15))
 (.guard (lt (v I 15) (ln (v (L (L I)) 13)))
 (.guard (le (c 0) (ix (v (L I) 14) (v I 1)))
 (.guard (lt (ix (v (L I) 14) (v I 1)) (ln (ix (v (L (L I)) 13) (v I 15))))
 (.ite (lt (ix (ix (v (L (L I)) 13) (v I 15)) (ix (v (L I) 14) (v I 1))) (c 0))
 (.ite (nt (ge (v I 1) (c 0)))
 (.jump 3 [a (ge (v I 3) (c 0)),a (v I 6),a (v I 7),a (v (L V3) 8),a (v (L TR) 9),a (v (L (L I)) 10),a (v (L I) 11),a (v (L I) 12),a (v (L (L I)) 13),a (v (L (L I)) 17),a (v (L I) 18),a (v (L B) 16),a (v (L I) 14)])
 (.jump 1 [a (v (L I) 2),a (v I 4),a (v I 5),a (v I 6),a (v I 7),a (v (L V3) 8),a (v (L TR) 9),a (v (L (L I)) 10),a (v (L I) 11),a (v (L I) 12),a (v (L (L I)) 13),a (v (L B) 16),a (v (L I) 14),a (v (L (L I)) 17),a (v (L I) 18)]))
 (.jump 0 [a (v I 0),a (add (v I 1) (c 1)),a (v (L I) 2),a (v I 3),a (v I 4),a (v I 5),a (v I 6),a (v I 7),a (v (L V3) 8),a (v (L TR) 9),a (v (L (L I)) 10),a (v (L I) 11),a (v (L I) 12),a (v (L (L I)) 13),a (v (L I) 14),a (v I 15),a (v (L B) 16),a (v (L (L I)) 17),a (v (L I) 18)]))))))))
 (.ite (nt (ge (c (-1)) (c 0)))
 (.jump 3 [a (ge (v I 3) (c 0)),a (v I 6),a (v I 7),a (v (L V3) 8),a (v (L TR) 9),a (v (L (L I)) 10),a (v (L I) 11),a (v (L I) 12),a (v (L (L I)) 13),a (v (L (L I)) 17),a (v (L I) 18),a (v (L B) 16),a (v (L I) 14)])
 (.jump 1 [a (v (L I) 2),a (v I 4),a (v I 5),a (v I 6),a (v I 7),a (v (L V3) 8),a (v (L TR) 9),a (v (L (L I)) 10),a (v (L I) 11),a (v (L I) 12),a (v (L (L I)) 13),a (v (L B) 16),a (v (L I) 14),a (v (L (L I)) 17),a (v (L I) 18)]))))
 (.jump 0 [a (v (L I) 0),a (v I 1),a (v I 2),a (v I 3),a (v I 4),a (v (L V3) 5),a (v (L TR) 6),a (v (L (L I)) 7),a (v (L I) 8),a (v (L I) 9),a (v (L (L I)) 10),a (v (L B) 11),a (v (L I) 12),a (v (L (L I)) 13),a (v (L I) 14)])))))
 (.jump 0 [a (v (L I) 0),a (v I 1),a (add (v I 2) (c 1)),a (v I 3),a (v I 4),a (v (L V3) 5),a (v (L TR) 6),a (v (L (L I)) 7),a (v (L I) 8),a (v (L I) 9),a (v (L (L I)) 10),a (v (L B) 11),a (v (L I) 12),a (v (L (L I)) 13),a (v (L I) 14)]))
 (.jump 1 [a (ge (c (-1)) (c 0)),a (v I 3),a (v I 4),a (v (L V3) 5),a (v (L TR) 6),a (v (L (L I)) 7),a (v (L I) 8),a (v (L I) 9),a (v (L (L I)) 10),a (v (L (L I)) 13),a (v (L I) 14),a (v (L B) 11),a (v (L I) 12)])))
 (.ite (v B 0)
 (.jump 1 [a (v I 1),a (v I 2),a (v (L V3) 3),a (v (L TR) 4),a (v (L (L I)) 5),a (v (L I) 6),a (v (L I) 7),a (v (L (L I)) 8),a (v (L (L I)) 9),a (v (L I) 10)])
 (.call f_slices_Clone_Sbool_bool [a (v (L B) 11)] 149
 (.loop [a (k false),a (v I 1),a (v I 2),a (v (L I) 7),a (ln (v (L I) 7)),a (c 0),a (v (L V3) 3),a (v (L TR) 4),a (v (L (L I)) 5),a (v (L I) 6),a (v (L I) 7),a (v (L (L I)) 8),a (v (L (L I)) 9),a (v (L I) 10),a (v (L B) 11),a (v (L I) 12),a (v (L B) 149)]
 (.ite (lt (v I 5) (v I 4))
 (.join
 (.guard (le (c 0) (v I 5))
 (.guard (lt (v I 5) (ln (v (L I) 3)))
 (.call f_impl_fairness_leads [a (pr (pr (v (L V3) 6) (v (L TR) 7)) (pr (v (L (L I)) 8) (pr (v (L I) 9) (pr (v (L I) 10) (v (L (L I)) 11))))),a (ix (v (L I) 3) (v I 5)),a (v (L B) 14)] 474
 (.ite (v B 474)
 (.jump 0 [a (v B 0),a (v I 1),a (v I 2),a (v (L I) 3),a (v I 4),a (v I 5),a (v (L V3) 6),a (v (L TR) 7),a (v (L (L I)) 8),a (v (L I) 9),a (v (L I) 10),a (v (L (L I)) 11),a (v (L (L I)) 12),a (v (L I) 13),a (v (L B) 14),a (v (L I) 15),a (v (L B) 16)])
 (.loop [a (v B 0),a (ix (v (L I) 3) (v I 5)),a (v I 1),a (v I 2),a (v (L I) 3),a (v I 4),a (v I 5),a (ln (v (L I) 15)),a (c 0),a (v (L V3) 6),a (v (L TR) 7),a (v (L (L I)) 8),a (v (L I) 9),a (v (L I) 10),a (v (L (L I)) 11),a (v (L (L I)) 12),a (v (L I) 13),a (v (L B) 14),a (v (L I) 15),a (v (L B) 16)]
 (.ite (lt (v I 8) (v I 7))
 (.join
 (.guard (le (c 0) (v I 8))
 (.guard (lt (v I 8) (ln (v (L I) 18)))
 (.guard (le (c 0) (v I 1))
 (.guard (lt (v I 1) (ln (v (L (L I)) 14)))
 (.guard (le (c 0) (ix (v (L I) 18) (v I 8)))
 (.guard (lt (ix (v (L I) 18) (v I 8)) (ln (ix (v (L (L I)) 14) (v I 1))))
 (.ite (ge (ix (ix (v (L (L I)) 14) (v I 1)) (ix (v (L I) 18) (v I 8))) (c 0))
 (.guard (le (c 0) (ix (v (L I) 18) (v I 8)))
 (.guard (lt (ix (v (L I) 18) (v I 8)) (ln (v (L B) 19)))
 (.jump 0 [a (k true),a (v I 1),a (v I 2),a (v I 3),a (v (L I) 4),a (v I 5),a (v I 6),a (v I 7),a (v I 8),a (v (L V3) 9),a (v (L TR) 10),a (v (L (L I)) 11),a (v (L I) 12),a (v (L I) 13),a (v (L (L I)) 14),a (v (L (L I)) 15),a (v (L I) 16),a (v (L B) 17),a (v (L I) 18),a (st (v (L B) 19) (ix (v (L I) 18) (v I 8)) (k false))])))
 (.jump 0 [a (v B 0),a (v I 1),a (v I 2),a (v I 3),a (v (L I) 4),a (v I 5),a (v I 6),a (v I 7),a (v I 8),a (v (L V3) 9),a (v (L TR) 10),a (v (L (L I)) 11),a (v (L I) 12),a (v (L I) 13),a (v (L (L I)) 14),a (v (L (L I)) 15),a (v (L I) 16),a (v (L B) 17),a (v (L I) 18),a (v (L B) 19)]))))))))
 (.jump 0 [a (v B 0),a (v I 1),a (v I 2),a (v I 3),a (v (L I) 4),a (v I 5),a (v I 6),a (v I 7),a (add (v I 8) (c 1)),a (v (L V3) 9),a (v (L TR) 10),a (v (L (L I)) 11),a (v (L I) 12),a (v (L I) 13),a (v (L (L I)) 14),a (v (L (L I)) 15),a (v (L I) 16),a (v (L B) 17),a (v (L I) 18),a (v (L B) 19)]))
 (.jump 1 [a (v B 0),a (v I 2),a (v I 3),a (v (L I) 4),a (v I 5),a (v I 6),a (v (L V3) 9),a (v (L TR) 10),a (v (L (L I)) 11),a (v (L I) 12),a (v (L I) 13),a (v (L (L I)) 14),a (v (L (L I)) 15),a (v (L I) 16),a (v (L B) 17),a (v (L I) 18),a (v (L B) 19)])))))))
 (.jump 0 [a (v B 0),a (v I 1),a (v I 2),a (v (L I) 3),a (v I 4),a (add (v I 5) (c 1)),a (v (L V3) 6),a (v (L TR) 7),a (v (L (L I)) 8),a (v (L I) 9),a (v (L I) 10),a (v (L (L I)) 11),a (v (L (L I)) 12),a (v (L I) 13),a (v (L B) 14),a (v (L I) 15),a (v (L B) 16)]))
 (.ite (v B 0)
 (.call f_impl_fairness_cores [a (pr (pr (v (L V3) 6) (v (L TR) 7)) (pr (v (L (L I)) 8) (pr (v (L I) 9) (pr (v (L I) 10) (v (L (L I)) 11))))),a (v (L B) 16)] 346
 (.guard (le (ln (v (L (L I)) 12)) (c 549755813888))
 (.guard (le (ln (v (L (L I)) 346)) (c 549755813888))
 (.jump 2 [a (v I 1),a (v I 2),a (v (L V3) 6),a (v (L TR) 7),a (v (L (L I)) 8),a (v (L I) 9),a (v (L I) 10),a (v (L (L I)) 11),a (app (v (L (L I)) 12) (v (L (L I)) 346)),a (v (L I) 13)]))))
 (.guard (le (ln (v (L (L I)) 12)) (c 549755813888))
 (.guard (le (ln (one (v (L I) 15))) (c 549755813888))
 (.jump 2 [a (v I 1),a (v I 2),a (v (L V3) 6),a (v (L TR) 7),a (v (L (L I)) 8),a (v (L I) 9),a (v (L I) 10),a (v (L (L I)) 11),a (app (v (L (L I)) 12) (one (v (L I) 15))),a (v (L I) 13)]))))))))))))))))))
 (.jump 0 [a (v I 0),a (add (v I 1) (c 1)),a (v (L V3) 2),a (v (L TR) 3),a (v (L (L I)) 4),a (v (L I) 5),a (v (L I) 6),a (v (L (L I)) 7),a (v (L (L I)) 8),a (v (L I) 9)]))
 (.ret [a (v (L (L I)) 8),a (pr (pr (v (L V3) 2) (v (L TR) 3)) (pr (v (L (L I)) 4) (pr (v (L I) 5) (pr (v (L I) 6) (v (L (L I)) 7)))))])))
def tr_laws_eqIntS:Tr:=.ite (ne (ln (v (L I) 0)) (ln (v (L I) 1)))
 (.ret [a (k false)])
 (.loop [a (v (L I) 0),a (v (L I) 1),a (c 0)]
 (.ite (lt (v I 2) (ln (v (L I) 0)))
 (.guard (le (c 0) (v I 2))
 (.guard (lt (v I 2) (ln (v (L I) 0)))
 (.guard (le (c 0) (v I 2))
 (.guard (lt (v I 2) (ln (v (L I) 1)))
 (.ite (ne (ix (v (L I) 0) (v I 2)) (ix (v (L I) 1) (v I 2)))
 (.ret [a (k false)])
 (.jump 0 [a (v (L I) 0),a (v (L I) 1),a (add (v I 2) (c 1))]))))))
 (.ret [a (k true)])))
def tr_laws_eqVar:Tr:=.ite (ne (v I 0) (v I 3))
 (.ret [a (k false)])
 (.ite (ne (v I 1) (v I 4))
 (.ret [a (k false)])
 (.ite (ne (v I 2) (v I 5))
 (.ret [a (k false)])
 (.ret [a (k true)])))
def tr_laws_eqVarS:Tr:=.ite (ne (ln (v (L V3) 0)) (ln (v (L V3) 1)))
 (.ret [a (k false)])
 (.loop [a (v (L V3) 0),a (v (L V3) 1),a (c 0)]
 (.ite (lt (v I 2) (ln (v (L V3) 0)))
 (.guard (le (c 0) (v I 2))
 (.guard (lt (v I 2) (ln (v (L V3) 0)))
 (.guard (le (c 0) (v I 2))
 (.guard (lt (v I 2) (ln (v (L V3) 1)))
 (.call f_laws_eqVar [a (f (ix (v (L V3) 0) (v I 2))),a (f (s (ix (v (L V3) 0) (v I 2)))),a (s (s (ix (v (L V3) 0) (v I 2)))),a (f (ix (v (L V3) 1) (v I 2))),a (f (s (ix (v (L V3) 1) (v I 2)))),a (s (s (ix (v (L V3) 1) (v I 2))))] 771
 (.ite (nt (v B 771))
 (.ret [a (k false)])
 (.jump 0 [a (v (L V3) 0),a (v (L V3) 1),a (add (v I 2) (c 1))])))))))
 (.ret [a (k true)])))
def tr_laws_eqTerm:Tr:=.ite (ne (v I 0) (v I 4))
 (.ret [a (k false)])
 (.ite (ne (v I 1) (v I 5))
 (.ret [a (k false)])
 (.ite (ne (v I 2) (v I 6))
 (.ret [a (k false)])
 (.ite (ne (v I 3) (v I 7))
 (.ret [a (k false)])
 (.ret [a (k true)]))))
def tr_laws_eqTermS:Tr:=.ite (ne (ln (v (L T4) 0)) (ln (v (L T4) 1)))
 (.ret [a (k false)])
 (.loop [a (v (L T4) 0),a (v (L T4) 1),a (c 0)]
 (.ite (lt (v I 2) (ln (v (L T4) 0)))
 (.guard (le (c 0) (v I 2))
 (.guard (lt (v I 2) (ln (v (L T4) 0)))
 (.guard (le (c 0) (v I 2))
 (.guard (lt (v I 2) (ln (v (L T4) 1)))
 (.call f_laws_eqTerm [a (f (ix (v (L T4) 0) (v I 2))),a (f (s (ix (v (L T4) 0) (v I 2)))),a (f (s (s (ix (v (L T4) 0) (v I 2))))),a (s (s (s (ix (v (L T4) 0) (v I 2))))),a (f (ix (v (L T4) 1) (v I 2))),a (f (s (ix (v (L T4) 1) (v I 2)))),a (f (s (s (ix (v (L T4) 1) (v I 2))))),a (s (s (s (ix (v (L T4) 1) (v I 2)))))] 771
 (.ite (nt (v B 771))
 (.ret [a (k false)])
 (.jump 0 [a (v (L T4) 0),a (v (L T4) 1),a (add (v I 2) (c 1))])))))))
 (.ret [a (k true)])))
def tr_laws_eqTermSS:Tr:=.ite (ne (ln (v (L (L T4)) 0)) (ln (v (L (L T4)) 1)))
 (.ret [a (k false)])
 (.loop [a (v (L (L T4)) 0),a (v (L (L T4)) 1),a (c 0)]
 (.ite (lt (v I 2) (ln (v (L (L T4)) 0)))
 (.guard (le (c 0) (v I 2))
 (.guard (lt (v I 2) (ln (v (L (L T4)) 0)))
 (.guard (le (c 0) (v I 2))
 (.guard (lt (v I 2) (ln (v (L (L T4)) 1)))
 (.call f_laws_eqTermS [a (ix (v (L (L T4)) 0) (v I 2)),a (ix (v (L (L T4)) 1) (v I 2))] 771
 (.ite (nt (v B 771))
 (.ret [a (k false)])
 (.jump 0 [a (v (L (L T4)) 0),a (v (L (L T4)) 1),a (add (v I 2) (c 1))])))))))
 (.ret [a (k true)])))
def tr_laws_eqRule:Tr:=.call f_laws_eqTermS [a (v (L T4) 0),a (v (L T4) 3)] 100448
 (.ite (nt (v B 100448))
 (.ret [a (k false)])
 (.call f_laws_eqIntS [a (v (L I) 1),a (v (L I) 4)] 100832
 (.ite (nt (v B 100832))
 (.ret [a (k false)])
 (.call f_laws_eqTermSS [a (v (L (L T4)) 2),a (v (L (L T4)) 5)] 101216
 (.ite (nt (v B 101216))
 (.ret [a (k false)])
 (.ret [a (k true)]))))))
def tr_laws_eqRuleS:Tr:=.ite (ne (ln (v (L TR) 0)) (ln (v (L TR) 1)))
 (.ret [a (k false)])
 (.loop [a (v (L TR) 0),a (v (L TR) 1),a (c 0)]
 (.ite (lt (v I 2) (ln (v (L TR) 0)))
 (.guard (le (c 0) (v I 2))
 (.guard (lt (v I 2) (ln (v (L TR) 0)))
 (.guard (le (c 0) (v I 2))
 (.guard (lt (v I 2) (ln (v (L TR) 1)))
 (.call f_laws_eqRule [a (f (ix (v (L TR) 0) (v I 2))),a (f (s (ix (v (L TR) 0) (v I 2)))),a (s (s (ix (v (L TR) 0) (v I 2)))),a (f (ix (v (L TR) 1) (v I 2))),a (f (s (ix (v (L TR) 1) (v I 2)))),a (s (s (ix (v (L TR) 1) (v I 2))))] 771
 (.ite (nt (v B 771))
 (.ret [a (k false)])
 (.jump 0 [a (v (L TR) 0),a (v (L TR) 1),a (add (v I 2) (c 1))])))))))
 (.ret [a (k true)])))
def tr_laws_eqSystem:Tr:=.call f_laws_eqVarS [a (v (L V3) 0),a (v (L V3) 2)] 100448
 (.ite (nt (v B 100448))
 (.ret [a (k false)])
 (.call f_laws_eqRuleS [a (v (L TR) 1),a (v (L TR) 3)] 100832
 (.ite (nt (v B 100832))
 (.ret [a (k false)])
 (.ret [a (k true)]))))
def tr_spec_l14Range:Tr:=.loop [a (v I 0),a (v I 1),a (c 0),a (nl I)]
 (.ite (lt (v I 2) (v I 1))
 (.guard (le (ln (v (L I) 3)) (c 549755813888))
 (.guard (le (ln (one (add (v I 0) (v I 2)))) (c 549755813888))
 (.jump 0 [a (v I 0),a (v I 1),a (add (v I 2) (c 1)),a (app (v (L I) 3) (one (add (v I 0) (v I 2))))])))
 (.ret [a (v (L I) 3)]))
def tr_impl_pasts:Tr:=.guard (le (c 0) (ln (v (L (L I)) 0)))
 (.guard (le (ln (v (L (L I)) 0)) (c 549755813888))
 (.loop [a (v (L (L I)) 0),a (ln (v (L (L I)) 0)),a (c 0),a (rep (ln (v (L (L I)) 0)) (z (L I)))]
 (.ite (lt (v I 2) (v I 1))
 (.guard (le (c 0) (v I 2))
 (.guard (lt (v I 2) (ln (v (L (L I)) 0)))
 (.loop [a (v I 2),a (v (L (L I)) 0),a (v I 1),a (v I 2),a (ix (v (L (L I)) 0) (v I 2)),a (ln (ix (v (L (L I)) 0) (v I 2))),a (c 0),a (v (L (L I)) 3)]
 (.ite (lt (v I 6) (v I 5))
 (.guard (le (c 0) (v I 6))
 (.guard (lt (v I 6) (ln (v (L I) 4)))
 (.guard (le (c 0) (ix (v (L I) 4) (v I 6)))
 (.guard (lt (ix (v (L I) 4) (v I 6)) (ln (v (L (L I)) 7)))
 (.guard (le (ln (ix (v (L (L I)) 7) (ix (v (L I) 4) (v I 6)))) (c 549755813888))
 (.guard (le (ln (one (v I 0))) (c 549755813888))
 (.guard (le (c 0) (ix (v (L I) 4) (v I 6)))
 (.guard (lt (ix (v (L I) 4) (v I 6)) (ln (v (L (L I)) 7)))
 (.jump 0 [a (v I 0),a (v (L (L I)) 1),a (v I 2),a (v I 3),a (v (L I) 4),a (v I 5),a (add (v I 6) (c 1)),a (st (v (L (L I)) 7) (ix (v (L I) 4) (v I 6)) (app (ix (v (L (L I)) 7) (ix (v (L I) 4) (v I 6))) (one (v I 0))))])))))))))
 (.jump 1 [a (v (L (L I)) 1),a (v I 2),a (add (v I 3) (c 1)),a (v (L (L I)) 7)])))))
 (.ret [a (v (L (L I)) 3)]))))
def tr_slices_Concat_Sint_int:Tr:=.loop [a (v (L (L I)) 0),a (c 0),a (v (L (L I)) 0),a (ln (v (L (L I)) 0)),a (c 0)]
 (.ite (lt (v I 4) (v I 3))
 (.guard (le (c 0) (v I 4))
 (.guard (lt (v I 4) (ln (v (L (L I)) 2)))
 (.ite (lt (add (v I 1) (ln (ix (v (L (L I)) 2) (v I 4)))) (c 0))
 (.bad)
 (.jump 0 [a (v (L (L I)) 0),a (add (v I 1) (ln (ix (v (L (L I)) 2) (v I 4)))),a (v (L (L I)) 2),a (v I 3),a (add (v I 4) (c 1))]))))
 (.guard (le (c 0) (v I 1))
 (.guard (le (v I 1) (c 549755813888))
 (.loop [a (v (L (L I)) 0),a (ln (v (L (L I)) 0)),a (c 0),a (nl I)]
 (.ite (lt (v I 2) (v I 1))
 (.guard (le (c 0) (v I 2))
 (.guard (lt (v I 2) (ln (v (L (L I)) 0)))
 (.guard (le (ln (v (L I) 3)) (c 549755813888))
 (.guard (le (ln (ix (v (L (L I)) 0) (v I 2))) (c 549755813888))
 (.jump 0 [a (v (L (L I)) 0),a (v I 1),a (add (v I 2) (c 1)),a (app (v (L I) 3) (ix (v (L (L I)) 0) (v I 2)))])))))
 (.ret [a (v (L I) 3)]))))))
def tr_impl_reach:Tr:=.guard (le (c 0) (ln (v (L (L I)) 0)))
 (.guard (le (ln (v (L (L I)) 0)) (c 549755813888))
 (.guard (le (ln (v (L I) 1)) (c 549755813888))
 (.loop [a (v (L (L I)) 0),a (v (L I) 1),a (ln (v (L I) 1)),a (c 0),a (rep (ln (v (L (L I)) 0)) (z B)),a (v (L I) 1)]
 (.ite (lt (v I 3) (v I 2))
 (.guard (le (c 0) (v I 3))
 (.guard (lt (v I 3) (ln (v (L I) 1)))
 (.guard (le (c 0) (ix (v (L I) 1) (v I 3)))
 (.guard (lt (ix (v (L I) 1) (v I 3)) (ln (v (L B) 4)))
 (.jump 0 [a (v (L (L I)) 0),a (v (L I) 1),a (v I 2),a (add (v I 3) (c 1)),a (st (v (L B) 4) (ix (v (L I) 1) (v I 3)) (k true)),a (v (L I) 5)])))))
 (.loop [a (v (L (L I)) 0),a (v (L B) 4),a (v (L I) 5)]
 (.ite (gt (ln (v (L I) 2)) (c 0))
 (.guard (lt (c 0) (ln (v (L I) 2)))
 (.guard (le (c 1) (ln (v (L I) 2)))
 (.guard (le (c 0) (ix (v (L I) 2) (c 0)))
 (.guard (lt (ix (v (L I) 2) (c 0)) (ln (v (L (L I)) 0)))
 (.loop [a (v (L (L I)) 0),a (ix (v (L (L I)) 0) (ix (v (L I) 2) (c 0))),a (ln (ix (v (L (L I)) 0) (ix (v (L I) 2) (c 0)))),a (c 0),a (v (L B) 1),a (drop (v (L I) 2) (c 1))]
 (.ite (lt (v I 3) (v I 2))
 (.join
 (.guard (le (c 0) (v I 3))
 (.guard (lt (v I 3) (ln (v (L I) 1)))
 (.guard (le (c 0) (ix (v (L I) 1) (v I 3)))
 (.guard (lt (ix (v (L I) 1) (v I 3)) (ln (v (L B) 4)))
 (.ite (nt (ix (v (L B) 4) (ix (v (L I) 1) (v I 3))))
 (.guard (le (c 0) (ix (v (L I) 1) (v I 3)))
 (.guard (lt (ix (v (L I) 1) (v I 3)) (ln (v (L B) 4)))
 (.guard (le (ln (v (L I) 5)) (c 549755813888))
 (.guard (le (ln (one (ix (v (L I) 1) (v I 3)))) (c 549755813888))
 (.jump 0 [a (v (L (L I)) 0),a (v (L I) 1),a (v I 2),a (v I 3),a (st (v (L B) 4) (ix (v (L I) 1) (v I 3)) (k true)),a (app (v (L I) 5) (one (ix (v (L I) 1) (v I 3))))])))))
 (.jump 0 [a (v (L (L I)) 0),a (v (L I) 1),a (v I 2),a (v I 3),a (v (L B) 4),a (v (L I) 5)]))))))
 (.jump 0 [a (v (L (L I)) 0),a (v (L I) 1),a (v I 2),a (add (v I 3) (c 1)),a (v (L B) 4),a (v (L I) 5)]))
 (.jump 1 [a (v (L (L I)) 0),a (v (L B) 4),a (v (L I) 5)])))))))
 (.ret [a (v (L B) 1)])))))))
def tr_impl_fairness_fairWithin:Tr:=.guard (le (c 0) (ln (f (s (v (P (P (L V3) (L TR)) (P (L (L I)) (P (L I) (P (L I) (L (L I)))))) 0)))))
 (.guard (le (ln (f (s (v (P (P (L V3) (L TR)) (P (L (L I)) (P (L I) (P (L I) (L (L I)))))) 0)))) (c 549755813888))
 (.loop [a (v (L B) 1),a (f (s (v (P (P (L V3) (L TR)) (P (L (L I)) (P (L I) (P (L I) (L (L I)))))) 0))),a (ln (f (s (v (P (P (L V3) (L TR)) (P (L (L I)) (P (L I) (P (L I) (L (L I)))))) 0)))),a (c 0),a (f (f (v (P (P (L V3) (L TR)) (P (L (L I)) (P (L I) (P (L I) (L (L I)))))) 0))),a (s (f (v (P (P (L V3) (L TR)) (P (L (L I)) (P (L I) (P (L I) (L (L I)))))) 0))),a (f (s (v (P (P (L V3) (L TR)) (P (L (L I)) (P (L I) (P (L I) (L (L I)))))) 0))),a (f (s (s (v (P (P (L V3) (L TR)) (P (L (L I)) (P (L I) (P (L I) (L (L I)))))) 0)))),a (f (s (s (s (v (P (P (L V3) (L TR)) (P (L (L I)) (P (L I) (P (L I) (L (L I)))))) 0))))),a (s (s (s (s (v (P (P (L V3) (L TR)) (P (L (L I)) (P (L I) (P (L I) (L (L I)))))) 0))))),a (rep (ln (f (s (v (P (P (L V3) (L TR)) (P (L (L I)) (P (L I) (P (L I) (L (L I)))))) 0)))) (z (L I)))]
 (.ite (lt (v I 3) (v I 2))
 (.guard (le (c 0) (v I 3))
 (.guard (lt (v I 3) (ln (v (L (L I)) 1)))
 (.loop [a (v (L B) 0),a (v I 3),a (v (L (L I)) 1),a (v I 2),a (v I 3),a (ix (v (L (L I)) 1) (v I 3)),a (ln (ix (v (L (L I)) 1) (v I 3))),a (c 0),a (v (L V3) 4),a (v (L TR) 5),a (v (L (L I)) 6),a (v (L I) 7),a (v (L I) 8),a (v (L (L I)) 9),a (v (L (L I)) 10)]
 (.ite (lt (v I 7) (v I 6))
 (.join
 (.guard (le (c 0) (v I 7))
 (.guard (lt (v I 7) (ln (v (L I) 5)))
 (.guard (le (c 0) (v I 1))
 (.guard (lt (v I 1) (ln (v (L B) 0)))
 (.ite (ix (v (L B) 0) (v I 1))
 (.guard (le (c 0) (ix (v (L I) 5) (v I 7)))
 (.guard (lt (ix (v (L I) 5) (v I 7)) (ln (v (L B) 0)))
 (.ite (ix (v (L B) 0) (ix (v (L I) 5) (v I 7)))
 (.guard (le (c 0) (v I 1))
 (.guard (lt (v I 1) (ln (v (L (L I)) 14)))
 (.guard (le (ln (ix (v (L (L I)) 14) (v I 1))) (c 549755813888))
 (.guard (le (ln (one (ix (v (L I) 5) (v I 7)))) (c 549755813888))
 (.guard (le (c 0) (v I 1))
 (.guard (lt (v I 1) (ln (v (L (L I)) 14)))
 (.jump 0 [a (v (L B) 0),a (v I 1),a (v (L (L I)) 2),a (v I 3),a (v I 4),a (v (L I) 5),a (v I 6),a (v I 7),a (v (L V3) 8),a (v (L TR) 9),a (v (L (L I)) 10),a (v (L I) 11),a (v (L I) 12),a (v (L (L I)) 13),a (st (v (L (L I)) 14) (v I 1) (app (ix (v (L (L I)) 14) (v I 1)) (one (ix (v (L I) 5) (v I 7)))))])))))))
 (.jump 0 [a (v (L B) 0),a (v I 1),a (v (L (L I)) 2),a (v I 3),a (v I 4),a (v (L I) 5),a (v I 6),a (v I 7),a (v (L V3) 8),a (v (L TR) 9),a (v (L (L I)) 10),a (v (L I) 11),a (v (L I) 12),a (v (L (L I)) 13),a (v (L (L I)) 14)]))))
 (.jump 0 [a (v (L B) 0),a (v I 1),a (v (L (L I)) 2),a (v I 3),a (v I 4),a (v (L I) 5),a (v I 6),a (v I 7),a (v (L V3) 8),a (v (L TR) 9),a (v (L (L I)) 10),a (v (L I) 11),a (v (L I) 12),a (v (L (L I)) 13),a (v (L (L I)) 14)]))))))
 (.jump 0 [a (v (L B) 0),a (v I 1),a (v (L (L I)) 2),a (v I 3),a (v I 4),a (v (L I) 5),a (v I 6),a (add (v I 7) (c 1)),a (v (L V3) 8),a (v (L TR) 9),a (v (L (L I)) 10),a (v (L I) 11),a (v (L I) 12),a (v (L (L I)) 13),a (v (L (L I)) 14)]))
 (.jump 1 [a (v (L B) 0),a (v (L (L I)) 2),a (v I 3),a (add (v I 4) (c 1)),a (v (L V3) 8),a (v (L TR) 9),a (v (L (L I)) 10),a (v (L I) 11),a (v (L I) 12),a (v (L (L I)) 13),a (v (L (L I)) 14)])))))
 (.call f_impl_pasts [a (v (L (L I)) 10)] 141
 (.call f_impl_fairness_cores [a (pr (pr (v (L V3) 4) (v (L TR) 5)) (pr (v (L (L I)) 6) (pr (v (L I) 7) (pr (v (L I) 8) (v (L (L I)) 9))))),a (v (L B) 0)] 333
 (.call f_slices_Concat_Sint_int [a (v (L (L I)) 333)] 397
 (.call f_impl_reach [a (v (L (L I)) 141),a (v (L I) 397)] 461
 (.ret [a (v (L B) 461),a (pr (pr (v (L V3) 4) (v (L TR) 5)) (pr (v (L (L I)) 6) (pr (v (L I) 7) (pr (v (L I) 8) (v (L (L I)) 9)))))]))))))))
def tr_impl_truthOf:Tr:=.call f_impl_SystemValid [a (v (L V3) 0),a (v (L TR) 1)] 100192
 (.ite (v B 100192)
 (.call f_impl_kindOf [a (v (L T4) 2),a (ln (v (L V3) 0))] 100576
 (.ret [a (eq (v I 100576) (c 2))]))
 (.ret [a (k false)]))
def tr_impl_where:Tr:=.call f_impl_size [a (v (L V3) 0)] 100256
 (.guard (le (c 0) (v I 100256))
 (.guard (le (v I 100256) (c 549755813888))
 (.loop [a (v (L T4) 2),a (ln (rep (v I 100256) (z B))),a (c 0),a (v (L V3) 0),a (v (L TR) 1),a (rep (v I 100256) (z B))]
 (.ite (lt (v I 2) (v I 1))
 (.call f_impl_stateAt [a (v (L V3) 3),a (v (L TR) 4),a (v I 2)] 520
 (.call f_impl_eval [a (v (L T4) 0),a (v (L I) 520)] 584
 (.guard (le (c 0) (v I 2))
 (.guard (lt (v I 2) (ln (v (L B) 5)))
 (.jump 0 [a (v (L T4) 0),a (v I 1),a (add (v I 2) (c 1)),a (v (L V3) 3),a (v (L TR) 4),a (st (v (L B) 5) (v I 2) (eq (v I 584) (c 1)))])))))
 (.ret [a (v (L B) 5)])))))
def tr_impl_goodIn:Tr:=.call f_impl_truthOf [a (v (L V3) 0),a (v (L TR) 1),a (v (L T4) 2)] 100320
 (.ite (nt (v B 100320))
 (.ret [a (nl B),a (k false)])
 (.call f_impl_where [a (v (L V3) 0),a (v (L TR) 1),a (v (L T4) 2)] 100576
 (.ret [a (v (L B) 100576),a (k true)])))
def tr_impl_first:Tr:=.loop [a (v (L V3) 0),a (ln (v (L V3) 0)),a (c 0),a (nl I)]
 (.ite (lt (v I 2) (v I 1))
 (.guard (le (c 0) (v I 2))
 (.guard (lt (v I 2) (ln (v (L V3) 0)))
 (.guard (le (ln (v (L I) 3)) (c 549755813888))
 (.guard (le (ln (one (s (s (ix (v (L V3) 0) (v I 2)))))) (c 549755813888))
 (.jump 0 [a (v (L V3) 0),a (v I 1),a (add (v I 2) (c 1)),a (app (v (L I) 3) (one (s (s (ix (v (L V3) 0) (v I 2))))))])))))
 (.call f_impl_clone_int [a (v (L I) 3)] 133
 (.ret [a (v (L I) 133)])))
def tr_impl_AlwaysComes:Tr:=.call f_impl_goodIn [a (v (L V3) 0),a (v (L TR) 1),a (v (L T4) 4)] 100256
 (.ite (nt (v B 100257))
 (.ret [a (k false)])
 (.call f_impl_rulesOk [a (v (L V3) 0),a (v (L TR) 1),a (v (L I) 2)] 100960
 (.ite (nt (v B 100960))
 (.ret [a (k false)])
 (.call f_impl_rulesOk [a (v (L V3) 0),a (v (L TR) 1),a (v (L I) 3)] 101344
 (.ite (nt (v B 101344))
 (.ret [a (k false)])
 (.loop [a (v (L I) 2),a (v (L I) 3),a (ln (v (L B) 100256)),a (c 0),a (v (L V3) 0),a (v (L TR) 1),a (v (L B) 100256)]
 (.ite (lt (v I 3) (v I 2))
 (.guard (le (c 0) (v I 3))
 (.guard (lt (v I 3) (ln (v (L B) 6)))
 (.guard (le (c 0) (v I 3))
 (.guard (lt (v I 3) (ln (v (L B) 6)))
 (.jump 0 [a (v (L I) 0),a (v (L I) 1),a (v I 2),a (add (v I 3) (c 1)),a (v (L V3) 4),a (v (L TR) 5),a (st (v (L B) 6) (v I 3) (nt (ix (v (L B) 6) (v I 3))))])))))
 (.call f_impl_first [a (v (L V3) 4),a (v (L TR) 5)] 201
 (.call f_impl_number [a (v (L V3) 4),a (v (L TR) 5),a (v (L I) 201)] 265
 (.guard (le (c 0) (v I 265))
 (.guard (lt (v I 265) (ln (v (L B) 6)))
 (.ite (nt (ix (v (L B) 6) (v I 265)))
 (.ret [a (k true)])
 (.call f_impl_fairnessOf [a (v (L V3) 4),a (v (L TR) 5),a (v (L I) 0),a (v (L I) 1)] 969
 (.call f_impl_fairness_fairWithin [a (pr (pr (f (f (v (P (P (L V3) (L TR)) (P (L (L I)) (P (L I) (P (L I) (L (L I)))))) 969))) (s (f (v (P (P (L V3) (L TR)) (P (L (L I)) (P (L I) (P (L I) (L (L I)))))) 969)))) (pr (f (s (v (P (P (L V3) (L TR)) (P (L (L I)) (P (L I) (P (L I) (L (L I)))))) 969))) (pr (f (s (s (v (P (P (L V3) (L TR)) (P (L (L I)) (P (L I) (P (L I) (L (L I)))))) 969)))) (pr (f (s (s (s (v (P (P (L V3) (L TR)) (P (L (L I)) (P (L I) (P (L I) (L (L I)))))) 969))))) (s (s (s (s (v (P (P (L V3) (L TR)) (P (L (L I)) (P (L I) (P (L I) (L (L I)))))) 969))))))))),a (v (L B) 6)] 1097
 (.guard (le (c 0) (v I 265))
 (.guard (lt (v I 265) (ln (v (L B) 1097)))
 (.ret [a (nt (ix (v (L B) 1097) (v I 265)))])))))))))))))))))
def tr_spec_StatesWhere:Tr:=.call f_spec_SystemValid [a (v (L V3) 0),a (v (L TR) 1)] 100320
 (.ite (nt (v B 100320))
 (.ret [a (nl I)])
 (.call f_spec_l2Is [a (v (L T4) 2),a (ln (v (L V3) 0)),a (c 2)] 100768
 (.ite (nt (v B 100768))
 (.ret [a (nl I)])
 (.loop [a (v (L T4) 2),a (c 0),a (v (L V3) 0),a (v (L TR) 1),a (nl I)]
 (.call f_spec_SizeOf [a (v (L V3) 2),a (v (L TR) 3)] 135
 (.ite (lt (v I 1) (v I 135))
 (.join
 (.call f_spec_l4State [a (v (L V3) 2),a (v (L TR) 3),a (v I 1)] 455
 (.call f_spec_l2Last [a (v (L T4) 0),a (v (L I) 455)] 519
 (.ite (eq (v I 519) (c 1))
 (.guard (le (ln (v (L I) 4)) (c 549755813888))
 (.guard (le (ln (one (v I 1))) (c 549755813888))
 (.jump 0 [a (v (L T4) 0),a (v I 1),a (v (L V3) 2),a (v (L TR) 3),a (app (v (L I) 4) (one (v I 1)))])))
 (.jump 0 [a (v (L T4) 0),a (v I 1),a (v (L V3) 2),a (v (L TR) 3),a (v (L I) 4)]))))
 (.jump 0 [a (v (L T4) 0),a (add (v I 1) (c 1)),a (v (L V3) 2),a (v (L TR) 3),a (v (L I) 4)]))
 (.ret [a (v (L I) 4)])))))))
def tr_spec_l4Set:Tr:=.loop [a (v (L I) 0),a (c 0)]
 (.ite (lt (v I 1) (ln (v (L I) 0)))
 (.join
 (.guard (le (c 0) (v I 1))
 (.guard (lt (v I 1) (ln (v (L I) 0)))
 (.call f_spec_l1In [a (ix (v (L I) 0) (v I 1)),a (c 0),a (c 399)] 514
 (.ite (nt (v B 514))
 (.ret [a (k false)])
 (.ite (gt (v I 1) (c 0))
 (.guard (le (c 0) (v I 1))
 (.guard (lt (v I 1) (ln (v (L I) 0)))
 (.guard (le (c 0) (sub (v I 1) (c 1)))
 (.guard (lt (sub (v I 1) (c 1)) (ln (v (L I) 0)))
 (.ite (le (ix (v (L I) 0) (v I 1)) (ix (v (L I) 0) (sub (v I 1) (c 1))))
 (.ret [a (k false)])
 (.jump 0 [a (v (L I) 0),a (v I 1)]))))))
 (.jump 0 [a (v (L I) 0),a (v I 1)]))))))
 (.jump 0 [a (v (L I) 0),a (add (v I 1) (c 1))]))
 (.ret [a (k true)]))
def tr_spec_l4Mix:Tr:=.call f_spec_l4Set [a (v (L I) 0)] 100256
 (.ite (nt (v B 100256))
 (.ret [a (nl I)])
 (.call f_spec_l4Set [a (v (L I) 1)] 100512
 (.ite (nt (v B 100512))
 (.ret [a (nl I)])
 (.call f_spec_l4Marks [a (v (L I) 0),a (c 400)] 100768
 (.call f_spec_l4Marks [a (v (L I) 1),a (c 400)] 100960
 (.loop [a (v I 2),a (c 0),a (nl I),a (v (L B) 100768),a (v (L B) 100960)]
 (.ite (lt (v I 1) (c 400))
 (.join
 (.ite (eq (v I 0) (c 0))
 (.guard (le (c 0) (v I 1))
 (.guard (lt (v I 1) (ln (v (L B) 3)))
 (.ite (ix (v (L B) 3) (v I 1))
 (.guard (le (c 0) (v I 1))
 (.guard (lt (v I 1) (ln (v (L B) 4)))
 (.ite (ix (v (L B) 4) (v I 1))
 (.guard (le (ln (v (L I) 2)) (c 549755813888))
 (.guard (le (ln (one (v I 1))) (c 549755813888))
 (.jump 0 [a (v I 0),a (v I 1),a (app (v (L I) 2) (one (v I 1))),a (v (L B) 3),a (v (L B) 4)])))
 (.ite (eq (v I 0) (c 1))
 (.guard (le (c 0) (v I 1))
 (.guard (lt (v I 1) (ln (v (L B) 3)))
 (.ite (ix (v (L B) 3) (v I 1))
 (.guard (le (ln (v (L I) 2)) (c 549755813888))
 (.guard (le (ln (one (v I 1))) (c 549755813888))
 (.jump 0 [a (v I 0),a (v I 1),a (app (v (L I) 2) (one (v I 1))),a (v (L B) 3),a (v (L B) 4)])))
 (.guard (le (c 0) (v I 1))
 (.guard (lt (v I 1) (ln (v (L B) 4)))
 (.ite (ix (v (L B) 4) (v I 1))
 (.guard (le (ln (v (L I) 2)) (c 549755813888))
 (.guard (le (ln (one (v I 1))) (c 549755813888))
 (.jump 0 [a (v I 0),a (v I 1),a (app (v (L I) 2) (one (v I 1))),a (v (L B) 3),a (v (L B) 4)])))
 (.ite (eq (v I 0) (c 2))
 (.guard (le (c 0) (v I 1))
 (.guard (lt (v I 1) (ln (v (L B) 3)))
 (.ite (ix (v (L B) 3) (v I 1))
 (.guard (le (c 0) (v I 1))
 (.guard (lt (v I 1) (ln (v (L B) 4)))
 (.ite (nt (ix (v (L B) 4) (v I 1)))
 (.guard (le (ln (v (L I) 2)) (c 549755813888))
 (.guard (le (ln (one (v I 1))) (c 549755813888))
 (.jump 0 [a (v I 0),a (v I 1),a (app (v (L I) 2) (one (v I 1))),a (v (L B) 3),a (v (L B) 4)])))
 (.jump 0 [a (v I 0),a (v I 1),a (v (L I) 2),a (v (L B) 3),a (v (L B) 4)]))))
 (.jump 0 [a (v I 0),a (v I 1),a (v (L I) 2),a (v (L B) 3),a (v (L B) 4)]))))
 (.jump 0 [a (v I 0),a (v I 1),a (v (L I) 2),a (v (L B) 3),a (v (L B) 4)]))))))))
 (.ite (eq (v I 0) (c 2))
 (.guard (le (c 0) (v I 1))
 (.guard (lt (v I 1) (ln (v (L B) 3)))
 (.ite (ix (v (L B) 3) (v I 1))
 (.guard (le (c 0) (v I 1))
 (.guard (lt (v I 1) (ln (v (L B) 4)))
 (.ite (nt (ix (v (L B) 4) (v I 1)))
 (.guard (le (ln (v (L I) 2)) (c 549755813888))
 (.guard (le (ln (one (v I 1))) (c 549755813888))
 (.jump 0 [a (v I 0),a (v I 1),a (app (v (L I) 2) (one (v I 1))),a (v (L B) 3),a (v (L B) 4)])))
 (.jump 0 [a (v I 0),a (v I 1),a (v (L I) 2),a (v (L B) 3),a (v (L B) 4)]))))
 (.jump 0 [a (v I 0),a (v I 1),a (v (L I) 2),a (v (L B) 3),a (v (L B) 4)]))))
 (.jump 0 [a (v I 0),a (v I 1),a (v (L I) 2),a (v (L B) 3),a (v (L B) 4)]))))))
 (.ite (eq (v I 0) (c 1))
 (.guard (le (c 0) (v I 1))
 (.guard (lt (v I 1) (ln (v (L B) 3)))
 (.ite (ix (v (L B) 3) (v I 1))
 (.guard (le (ln (v (L I) 2)) (c 549755813888))
 (.guard (le (ln (one (v I 1))) (c 549755813888))
 (.jump 0 [a (v I 0),a (v I 1),a (app (v (L I) 2) (one (v I 1))),a (v (L B) 3),a (v (L B) 4)])))
 (.guard (le (c 0) (v I 1))
 (.guard (lt (v I 1) (ln (v (L B) 4)))
 (.ite (ix (v (L B) 4) (v I 1))
 (.guard (le (ln (v (L I) 2)) (c 549755813888))
 (.guard (le (ln (one (v I 1))) (c 549755813888))
 (.jump 0 [a (v I 0),a (v I 1),a (app (v (L I) 2) (one (v I 1))),a (v (L B) 3),a (v (L B) 4)])))
 (.ite (eq (v I 0) (c 2))
 (.guard (le (c 0) (v I 1))
 (.guard (lt (v I 1) (ln (v (L B) 3)))
 (.ite (ix (v (L B) 3) (v I 1))
 (.guard (le (c 0) (v I 1))
 (.guard (lt (v I 1) (ln (v (L B) 4)))
 (.ite (nt (ix (v (L B) 4) (v I 1)))
 (.guard (le (ln (v (L I) 2)) (c 549755813888))
 (.guard (le (ln (one (v I 1))) (c 549755813888))
 (.jump 0 [a (v I 0),a (v I 1),a (app (v (L I) 2) (one (v I 1))),a (v (L B) 3),a (v (L B) 4)])))
 (.jump 0 [a (v I 0),a (v I 1),a (v (L I) 2),a (v (L B) 3),a (v (L B) 4)]))))
 (.jump 0 [a (v I 0),a (v I 1),a (v (L I) 2),a (v (L B) 3),a (v (L B) 4)]))))
 (.jump 0 [a (v I 0),a (v I 1),a (v (L I) 2),a (v (L B) 3),a (v (L B) 4)]))))))))
 (.ite (eq (v I 0) (c 2))
 (.guard (le (c 0) (v I 1))
 (.guard (lt (v I 1) (ln (v (L B) 3)))
 (.ite (ix (v (L B) 3) (v I 1))
 (.guard (le (c 0) (v I 1))
 (.guard (lt (v I 1) (ln (v (L B) 4)))
 (.ite (nt (ix (v (L B) 4) (v I 1)))
 (.guard (le (ln (v (L I) 2)) (c 549755813888))
 (.guard (le (ln (one (v I 1))) (c 549755813888))
 (.jump 0 [a (v I 0),a (v I 1),a (app (v (L I) 2) (one (v I 1))),a (v (L B) 3),a (v (L B) 4)])))
 (.jump 0 [a (v I 0),a (v I 1),a (v (L I) 2),a (v (L B) 3),a (v (L B) 4)]))))
 (.jump 0 [a (v I 0),a (v I 1),a (v (L I) 2),a (v (L B) 3),a (v (L B) 4)]))))
 (.jump 0 [a (v I 0),a (v I 1),a (v (L I) 2),a (v (L B) 3),a (v (L B) 4)]))))))
 (.ite (eq (v I 0) (c 1))
 (.guard (le (c 0) (v I 1))
 (.guard (lt (v I 1) (ln (v (L B) 3)))
 (.ite (ix (v (L B) 3) (v I 1))
 (.guard (le (ln (v (L I) 2)) (c 549755813888))
 (.guard (le (ln (one (v I 1))) (c 549755813888))
 (.jump 0 [a (v I 0),a (v I 1),a (app (v (L I) 2) (one (v I 1))),a (v (L B) 3),a (v (L B) 4)])))
 (.guard (le (c 0) (v I 1))
 (.guard (lt (v I 1) (ln (v (L B) 4)))
 (.ite (ix (v (L B) 4) (v I 1))
 (.guard (le (ln (v (L I) 2)) (c 549755813888))
 (.guard (le (ln (one (v I 1))) (c 549755813888))
 (.jump 0 [a (v I 0),a (v I 1),a (app (v (L I) 2) (one (v I 1))),a (v (L B) 3),a (v (L B) 4)])))
 (.ite (eq (v I 0) (c 2))
 (.guard (le (c 0) (v I 1))
 (.guard (lt (v I 1) (ln (v (L B) 3)))
 (.ite (ix (v (L B) 3) (v I 1))
 (.guard (le (c 0) (v I 1))
 (.guard (lt (v I 1) (ln (v (L B) 4)))
 (.ite (nt (ix (v (L B) 4) (v I 1)))
 (.guard (le (ln (v (L I) 2)) (c 549755813888))
 (.guard (le (ln (one (v I 1))) (c 549755813888))
 (.jump 0 [a (v I 0),a (v I 1),a (app (v (L I) 2) (one (v I 1))),a (v (L B) 3),a (v (L B) 4)])))
 (.jump 0 [a (v I 0),a (v I 1),a (v (L I) 2),a (v (L B) 3),a (v (L B) 4)]))))
 (.jump 0 [a (v I 0),a (v I 1),a (v (L I) 2),a (v (L B) 3),a (v (L B) 4)]))))
 (.jump 0 [a (v I 0),a (v I 1),a (v (L I) 2),a (v (L B) 3),a (v (L B) 4)]))))))))
 (.ite (eq (v I 0) (c 2))
 (.guard (le (c 0) (v I 1))
 (.guard (lt (v I 1) (ln (v (L B) 3)))
 (.ite (ix (v (L B) 3) (v I 1))
 (.guard (le (c 0) (v I 1))
 (.guard (lt (v I 1) (ln (v (L B) 4)))
 (.ite (nt (ix (v (L B) 4) (v I 1)))
 (.guard (le (ln (v (L I) 2)) (c 549755813888))
 (.guard (le (ln (one (v I 1))) (c 549755813888))
 (.jump 0 [a (v I 0),a (v I 1),a (app (v (L I) 2) (one (v I 1))),a (v (L B) 3),a (v (L B) 4)])))
 (.jump 0 [a (v I 0),a (v I 1),a (v (L I) 2),a (v (L B) 3),a (v (L B) 4)]))))
 (.jump 0 [a (v I 0),a (v I 1),a (v (L I) 2),a (v (L B) 3),a (v (L B) 4)]))))
 (.jump 0 [a (v I 0),a (v I 1),a (v (L I) 2),a (v (L B) 3),a (v (L B) 4)]))))
 (.jump 0 [a (v I 0),a (add (v I 1) (c 1)),a (v (L I) 2),a (v (L B) 3),a (v (L B) 4)]))
 (.ret [a (v (L I) 2)]))))))))
def tr_spec_SetWithout:Tr:=.call f_spec_l4Mix [a (v (L I) 0),a (v (L I) 1),a (c 2)] 100192
 (.ret [a (v (L I) 100192)])
end Go.Proofs.YtknlennollmgeaaGreat
namespace Go.Proofs.YtknlennollmgeaaGreat
open Go Go.Sm Go.Sm.Q
def tr_spec_l4Ahead:Tr:=.guard (le (c 0) (ln (v (L (L I)) 0)))
 (.guard (le (ln (v (L (L I)) 0)) (c 549755813888))
 (.loop [a (v (L (L I)) 0),a (v (L B) 1),a (c 0),a (rep (ln (v (L (L I)) 0)) (z B))]
 (.ite (lt (v I 2) (ln (v (L (L I)) 0)))
 (.loop [a (v (L (L I)) 0),a (v (L B) 1),a (v I 2),a (c 0),a (v (L B) 3)]
 (.guard (le (c 0) (v I 2))
 (.guard (lt (v I 2) (ln (v (L (L I)) 0)))
 (.ite (lt (v I 3) (ln (ix (v (L (L I)) 0) (v I 2))))
 (.join
 (.guard (le (c 0) (v I 2))
 (.guard (lt (v I 2) (ln (v (L (L I)) 0)))
 (.guard (le (c 0) (v I 3))
 (.guard (lt (v I 3) (ln (ix (v (L (L I)) 0) (v I 2))))
 (.guard (le (c 0) (ix (ix (v (L (L I)) 0) (v I 2)) (v I 3)))
 (.guard (lt (ix (ix (v (L (L I)) 0) (v I 2)) (v I 3)) (ln (v (L B) 1)))
 (.ite (ix (v (L B) 1) (ix (ix (v (L (L I)) 0) (v I 2)) (v I 3)))
 (.guard (le (c 0) (v I 2))
 (.guard (lt (v I 2) (ln (v (L B) 4)))
 (.jump 0 [a (v (L (L I)) 0),a (v (L B) 1),a (v I 2),a (v I 3),a (st (v (L B) 4) (v I 2) (k true))])))
 (.jump 0 [a (v (L (L I)) 0),a (v (L B) 1),a (v I 2),a (v I 3),a (v (L B) 4)]))))))))
 (.jump 0 [a (v (L (L I)) 0),a (v (L B) 1),a (v I 2),a (add (v I 3) (c 1)),a (v (L B) 4)]))
 (.jump 1 [a (v (L (L I)) 0),a (v (L B) 1),a (add (v I 2) (c 1)),a (v (L B) 4)])))))
 (.ret [a (v (L B) 3)]))))
def tr_spec_l4List:Tr:=.loop [a (v (L B) 0),a (c 0),a (nl I)]
 (.ite (lt (v I 1) (ln (v (L B) 0)))
 (.join
 (.guard (le (c 0) (v I 1))
 (.guard (lt (v I 1) (ln (v (L B) 0)))
 (.ite (ix (v (L B) 0) (v I 1))
 (.guard (le (ln (v (L I) 2)) (c 549755813888))
 (.guard (le (ln (one (v I 1))) (c 549755813888))
 (.jump 0 [a (v (L B) 0),a (v I 1),a (app (v (L I) 2) (one (v I 1)))])))
 (.jump 0 [a (v (L B) 0),a (v I 1),a (v (L I) 2)]))))
 (.jump 0 [a (v (L B) 0),a (add (v I 1) (c 1)),a (v (L I) 2)]))
 (.ret [a (v (L I) 2)]))
def tr_spec_FairWithin:Tr:=.call f_spec_FairCores [a (v (L V3) 0),a (v (L TR) 1),a (v (L I) 2),a (v (L I) 3),a (v (L I) 4)] 100384
 (.ite (eq (ln (v (L (L I)) 100384)) (c 0))
 (.ret [a (nl I)])
 (.call f_spec_l4Steps [a (v (L V3) 0),a (v (L TR) 1)] 100768
 (.call f_spec_l4Marks [a (v (L I) 4),a (ln (v (L (L I)) 100768))] 101088
 (.guard (le (c 0) (ln (v (L (L I)) 100768)))
 (.guard (le (ln (v (L (L I)) 100768)) (c 549755813888))
 (.loop [a (c 0),a (v (L (L I)) 100384),a (v (L (L I)) 100768),a (v (L B) 101088),a (rep (ln (v (L (L I)) 100768)) (z B))]
 (.ite (lt (v I 0) (ln (v (L (L I)) 1)))
 (.loop [a (v I 0),a (c 0),a (v (L (L I)) 1),a (v (L (L I)) 2),a (v (L B) 3),a (v (L B) 4)]
 (.guard (le (c 0) (v I 0))
 (.guard (lt (v I 0) (ln (v (L (L I)) 2)))
 (.ite (lt (v I 1) (ln (ix (v (L (L I)) 2) (v I 0))))
 (.guard (le (c 0) (v I 0))
 (.guard (lt (v I 0) (ln (v (L (L I)) 2)))
 (.guard (le (c 0) (v I 1))
 (.guard (lt (v I 1) (ln (ix (v (L (L I)) 2) (v I 0))))
 (.guard (le (c 0) (ix (ix (v (L (L I)) 2) (v I 0)) (v I 1)))
 (.guard (lt (ix (ix (v (L (L I)) 2) (v I 0)) (v I 1)) (ln (v (L B) 5)))
 (.jump 0 [a (v I 0),a (add (v I 1) (c 1)),a (v (L (L I)) 2),a (v (L (L I)) 3),a (v (L B) 4),a (st (v (L B) 5) (ix (ix (v (L (L I)) 2) (v I 0)) (v I 1)) (k true))])))))))
 (.jump 1 [a (add (v I 0) (c 1)),a (v (L (L I)) 2),a (v (L (L I)) 3),a (v (L B) 4),a (v (L B) 5)])))))
 (.loop [a (c 0),a (v (L (L I)) 2),a (v (L B) 3),a (v (L B) 4)]
 (.ite (lt (v I 0) (ln (v (L (L I)) 1)))
 (.call f_spec_l4Ahead [a (v (L (L I)) 1),a (v (L B) 3)] 391
 (.loop [a (v I 0),a (c 0),a (v (L (L I)) 1),a (v (L B) 2),a (v (L B) 3),a (v (L B) 391)]
 (.ite (lt (v I 1) (ln (v (L (L I)) 2)))
 (.join
 (.guard (le (c 0) (v I 1))
 (.guard (lt (v I 1) (ln (v (L B) 4)))
 (.ite (ix (v (L B) 4) (v I 1))
 (.guard (le (c 0) (v I 1))
 (.guard (lt (v I 1) (ln (v (L B) 4)))
 (.jump 0 [a (v I 0),a (v I 1),a (v (L (L I)) 2),a (v (L B) 3),a (st (v (L B) 4) (v I 1) (k true)),a (v (L B) 5)])))
 (.guard (le (c 0) (v I 1))
 (.guard (lt (v I 1) (ln (v (L B) 5)))
 (.ite (ix (v (L B) 5) (v I 1))
 (.guard (le (c 0) (v I 1))
 (.guard (lt (v I 1) (ln (v (L B) 3)))
 (.guard (le (c 0) (v I 1))
 (.guard (lt (v I 1) (ln (v (L B) 4)))
 (.jump 0 [a (v I 0),a (v I 1),a (v (L (L I)) 2),a (v (L B) 3),a (st (v (L B) 4) (v I 1) (ix (v (L B) 3) (v I 1))),a (v (L B) 5)])))))
 (.guard (le (c 0) (v I 1))
 (.guard (lt (v I 1) (ln (v (L B) 4)))
 (.jump 0 [a (v I 0),a (v I 1),a (v (L (L I)) 2),a (v (L B) 3),a (st (v (L B) 4) (v I 1) (k false)),a (v (L B) 5)])))))))))
 (.jump 0 [a (v I 0),a (add (v I 1) (c 1)),a (v (L (L I)) 2),a (v (L B) 3),a (v (L B) 4),a (v (L B) 5)]))
 (.jump 1 [a (add (v I 0) (c 1)),a (v (L (L I)) 2),a (v (L B) 3),a (v (L B) 4)]))))
 (.call f_spec_l4List [a (v (L B) 3)] 327
 (.ret [a (v (L I) 327)])))))))))))
def tr_spec_AlwaysComes:Tr:=.call f_spec_l23Asked [a (v (L V3) 0),a (v (L TR) 1),a (v (L I) 2),a (v (L I) 3)] 100320
 (.ite (nt (v B 100320))
 (.ret [a (k false)])
 (.call f_spec_l2Is [a (v (L T4) 4),a (ln (v (L V3) 0)),a (c 2)] 100768
 (.ite (nt (v B 100768))
 (.ret [a (k false)])
 (.call f_spec_SizeOf [a (v (L V3) 0),a (v (L TR) 1)] 101152
 (.call f_spec_l14Range [a (c 0),a (v I 101152)] 101216
 (.call f_spec_StatesWhere [a (v (L V3) 0),a (v (L TR) 1),a (v (L T4) 4)] 101280
 (.call f_spec_SetWithout [a (v (L I) 101216),a (v (L I) 101280)] 101344
 (.call f_spec_FairWithin [a (v (L V3) 0),a (v (L TR) 1),a (v (L I) 2),a (v (L I) 3),a (v (L I) 101344)] 101856
 (.call f_spec_FirstState [a (v (L V3) 0),a (v (L TR) 1)] 101920
 (.call f_spec_l4Number [a (v (L V3) 0),a (v (L TR) 1),a (v (L I) 101920)] 101984
 (.call f_spec_l2Has [a (v (L I) 101856),a (v I 101984)] 102048
 (.ret [a (nt (v B 102048))]))))))))))))
def tr_laws_FnExactAlwaysComes:Tr:=.ite (gt (ln (v (L I) 2)) (c 1048576))
 (.ret [a (k true)])
 (.ite (gt (ln (v (L I) 3)) (c 1048576))
 (.ret [a (k true)])
 (.call f_laws_szSystem [a (v (L V3) 0),a (v (L TR) 1),a (c 1048576)] 100704
 (.ite (lt (v I 100704) (c 0))
 (.ret [a (k true)])
 (.call f_laws_szTermS [a (v (L T4) 4),a (v I 100704)] 101088
 (.ite (lt (v I 101088) (c 0))
 (.ret [a (k true)])
 (.call f_laws_toSystem [a (v (L V3) 0),a (v (L TR) 1)] 101408
 (.call f_laws_toIntS [a (v (L I) 2)] 101536
 (.call f_laws_toIntS [a (v (L I) 3)] 101664
 (.call f_laws_toTermS [a (v (L T4) 4)] 101792
 (.call f_spec_AlwaysComes [a (v (L V3) 101408),a (v (L TR) 101409),a (v (L I) 101536),a (v (L I) 101664),a (v (L T4) 101792)] 101856
 (.call f_laws_toSystem [a (v (L V3) 0),a (v (L TR) 1)] 102048
 (.call f_laws_toIntS [a (v (L I) 2)] 102304
 (.call f_laws_toIntS [a (v (L I) 3)] 102496
 (.call f_laws_toTermS [a (v (L T4) 4)] 102688
 (.call f_impl_AlwaysComes [a (v (L V3) 102048),a (v (L TR) 102049),a (v (L I) 102304),a (v (L I) 102496),a (v (L T4) 102688)] 103072
 (.ite (.o2 .bne (v B 103072) (v B 101856))
 (.ret [a (k false)])
 (.call f_laws_toSystem [a (v (L V3) 0),a (v (L TR) 1)] 103520
 (.call f_laws_eqSystem [a (v (L V3) 102048),a (v (L TR) 102049),a (v (L V3) 103520),a (v (L TR) 103521)] 103584
 (.ite (nt (v B 103584))
 (.ret [a (k false)])
 (.call f_laws_toIntS [a (v (L I) 2)] 103840
 (.call f_laws_eqIntS [a (v (L I) 102304),a (v (L I) 103840)] 103904
 (.ite (nt (v B 103904))
 (.ret [a (k false)])
 (.call f_laws_toIntS [a (v (L I) 3)] 104160
 (.call f_laws_eqIntS [a (v (L I) 102496),a (v (L I) 104160)] 104224
 (.ite (nt (v B 104224))
 (.ret [a (k false)])
 (.call f_laws_toTermS [a (v (L T4) 4)] 104480
 (.call f_laws_eqTermS [a (v (L T4) 102688),a (v (L T4) 104480)] 104544
 (.ite (nt (v B 104544))
 (.ret [a (k false)])
 (.ret [a (k true)])))))))))))))))))))))))))))))
end Go.Proofs.YtknlennollmgeaaGreat
namespace Go.Proofs.YtknlennollmgeaaGreat
open Go Go.Sm Go.Sm.Q
set_option maxRecDepth 100000
def trL:List (Nat×Tr):=[
(f_laws_szVarS,tr_laws_szVarS),
(f_laws_szTermS,tr_laws_szTermS),
(f_laws_szIntS,tr_laws_szIntS),
(f_laws_szTermSS,tr_laws_szTermSS),
(f_laws_szRule,tr_laws_szRule),
(f_laws_szRuleS,tr_laws_szRuleS),
(f_laws_szSystem,tr_laws_szSystem),
(f_laws_toVar,tr_laws_toVar),
(f_laws_toVarS,tr_laws_toVarS),
(f_laws_toTerm,tr_laws_toTerm),
(f_laws_toTermS,tr_laws_toTermS),
(f_laws_toIntS,tr_laws_toIntS),
(f_laws_toTermSS,tr_laws_toTermSS),
(f_laws_toRule,tr_laws_toRule),
(f_laws_toRuleS,tr_laws_toRuleS),
(f_laws_toSystem,tr_laws_toSystem),
(f_spec_l1In,tr_spec_l1In),
(f_spec_l2Var,tr_spec_l2Var),
(f_spec_l1One,tr_spec_l1One),
(f_spec_l1Kind,tr_spec_l1Kind),
(f_spec_KindsOf,tr_spec_KindsOf),
(f_spec_l2Is,tr_spec_l2Is),
(f_spec_l2Rule,tr_spec_l2Rule),
(f_spec_SystemValid,tr_spec_SystemValid),
(f_spec_RulesSet,tr_spec_RulesSet),
(f_spec_l23Asked,tr_spec_l23Asked),
(f_spec_SizeOf,tr_spec_SizeOf),
(f_spec_SetValid,tr_spec_SetValid),
(f_spec_FirstState,tr_spec_FirstState),
(f_spec_l3Copy,tr_spec_l3Copy),
(f_spec_l4State,tr_spec_l4State),
(f_spec_l1Held,tr_spec_l1Held),
(f_spec_l1Truth,tr_spec_l1Truth),
(f_spec_l1Do,tr_spec_l1Do),
(f_spec_l1Values,tr_spec_l1Values),
(f_spec_l2Last,tr_spec_l2Last),
(f_spec_l2In,tr_spec_l2In),
(f_spec_l2Use,tr_spec_l2Use),
(f_spec_l2Same,tr_spec_l2Same),
(f_spec_l2Less,tr_spec_l2Less),
(f_spec_l2Put,tr_spec_l2Put),
(f_spec_l2Next,tr_spec_l2Next),
(f_spec_l4Number,tr_spec_l4Number),
(f_spec_l4Steps,tr_spec_l4Steps),
(f_spec_l23Usable,tr_spec_l23Usable),
(f_spec_l4Marks,tr_spec_l4Marks),
(f_spec_l2Has,tr_spec_l2Has),
(f_spec_l5Turned,tr_spec_l5Turned),
(f_spec_l5Steps,tr_spec_l5Steps),
(f_spec_l5Parts,tr_spec_l5Parts),
(f_spec_l23Parts,tr_spec_l23Parts),
(f_spec_l23Target,tr_spec_l23Target),
(f_spec_l23Inner,tr_spec_l23Inner),
(f_spec_l23Strong,tr_spec_l23Strong),
(f_spec_l23Weak,tr_spec_l23Weak),
(f_spec_l23Cores,tr_spec_l23Cores),
(f_spec_FairCores,tr_spec_FairCores),
(f_impl_in,tr_impl_in),
(f_impl_varOk,tr_impl_varOk),
(f_impl_size,tr_impl_size),
(f_impl_parts,tr_impl_parts),
(f_impl_kindsOf,tr_impl_kindsOf),
(f_impl_kindOf,tr_impl_kindOf),
(f_impl_ruleOk,tr_impl_ruleOk),
(f_impl_SystemValid,tr_impl_SystemValid),
(f_impl_setOk,tr_impl_setOk),
(f_impl_rulesOk,tr_impl_rulesOk),
(f_impl_stateAt,tr_impl_stateAt),
(f_impl_held,tr_impl_held),
(f_impl_bit,tr_impl_bit),
(f_impl_do,tr_impl_do),
(f_impl_eval,tr_impl_eval),
(f_impl_clone_int,tr_impl_clone_int),
(f_impl_inRange,tr_impl_inRange),
(f_impl_use,tr_impl_use),
(f_cmp_isNaN_int,tr_cmp_isNaN_int),
(f_cmp_Compare_int,tr_cmp_Compare_int),
(f_slices_Compare_Sint_int,tr_slices_Compare_Sint_int),
(f_slices_Reverse_SSint_Sint,tr_slices_Reverse_SSint_Sint),
(f_impl_clone_Sint,tr_impl_clone_Sint),
(f_impl_nextStates,tr_impl_nextStates),
(f_impl_number,tr_impl_number),
(f_impl_nexts,tr_impl_nexts),
(f_math_bits_Mul32,tr_math_bits_Mul32),
(f_math_bits_Mul64,tr_math_bits_Mul64),
(f_math_bits_Mul,tr_math_bits_Mul),
(f_slices_Repeat_Sint_int,tr_slices_Repeat_Sint_int),
(f_impl_fairnessOf,tr_impl_fairnessOf),
(f_slices_Index_Sint_int,tr_slices_Index_Sint_int),
(f_slices_Min_Sint_int,tr_slices_Min_Sint_int),
(f_impl_tarjan_1,tr_impl_tarjan_1),
(f_impl_tarjan,tr_impl_tarjan),
(f_impl_listOf,tr_impl_listOf),
(f_slices_Contains_Sint_int,tr_slices_Contains_Sint_int),
(f_impl_fairness_leads,tr_impl_fairness_leads),
(f_slices_Clone_Sbool_bool,tr_slices_Clone_Sbool_bool),
(f_impl_fairness_cores,tr_impl_fairness_cores),
(f_laws_eqIntS,tr_laws_eqIntS),
(f_laws_eqVar,tr_laws_eqVar),
(f_laws_eqVarS,tr_laws_eqVarS),
(f_laws_eqTerm,tr_laws_eqTerm),
(f_laws_eqTermS,tr_laws_eqTermS),
(f_laws_eqTermSS,tr_laws_eqTermSS),
(f_laws_eqRule,tr_laws_eqRule),
(f_laws_eqRuleS,tr_laws_eqRuleS),
(f_laws_eqSystem,tr_laws_eqSystem),
(f_spec_l14Range,tr_spec_l14Range),
(f_impl_pasts,tr_impl_pasts),
(f_slices_Concat_Sint_int,tr_slices_Concat_Sint_int),
(f_impl_reach,tr_impl_reach),
(f_impl_fairness_fairWithin,tr_impl_fairness_fairWithin),
(f_impl_truthOf,tr_impl_truthOf),
(f_impl_where,tr_impl_where),
(f_impl_goodIn,tr_impl_goodIn),
(f_impl_first,tr_impl_first),
(f_impl_AlwaysComes,tr_impl_AlwaysComes),
(f_spec_StatesWhere,tr_spec_StatesWhere),
(f_spec_l4Set,tr_spec_l4Set),
(f_spec_l4Mix,tr_spec_l4Mix),
(f_spec_SetWithout,tr_spec_SetWithout),
(f_spec_l4Ahead,tr_spec_l4Ahead),
(f_spec_l4List,tr_spec_l4List),
(f_spec_FairWithin,tr_spec_FairWithin),
(f_spec_AlwaysComes,tr_spec_AlwaysComes),
(f_laws_FnExactAlwaysComes,tr_laws_FnExactAlwaysComes)]
def haL:List Nat:=[]
def mc:Mc:=⟨fun f=>(trL.find? (·.1==f)).map (·.2),fun f ins=>if haL.contains f then some ins else none⟩
theorem F_laws_szVarS:mc.F f_laws_szVarS=some tr_laws_szVarS:=rfl
theorem F_laws_szTermS:mc.F f_laws_szTermS=some tr_laws_szTermS:=rfl
theorem F_laws_szIntS:mc.F f_laws_szIntS=some tr_laws_szIntS:=rfl
theorem F_laws_szTermSS:mc.F f_laws_szTermSS=some tr_laws_szTermSS:=rfl
theorem F_laws_szRule:mc.F f_laws_szRule=some tr_laws_szRule:=rfl
theorem F_laws_szRuleS:mc.F f_laws_szRuleS=some tr_laws_szRuleS:=rfl
theorem F_laws_szSystem:mc.F f_laws_szSystem=some tr_laws_szSystem:=rfl
theorem F_laws_toVar:mc.F f_laws_toVar=some tr_laws_toVar:=rfl
theorem F_laws_toVarS:mc.F f_laws_toVarS=some tr_laws_toVarS:=rfl
theorem F_laws_toTerm:mc.F f_laws_toTerm=some tr_laws_toTerm:=rfl
theorem F_laws_toTermS:mc.F f_laws_toTermS=some tr_laws_toTermS:=rfl
theorem F_laws_toIntS:mc.F f_laws_toIntS=some tr_laws_toIntS:=rfl
theorem F_laws_toTermSS:mc.F f_laws_toTermSS=some tr_laws_toTermSS:=rfl
theorem F_laws_toRule:mc.F f_laws_toRule=some tr_laws_toRule:=rfl
theorem F_laws_toRuleS:mc.F f_laws_toRuleS=some tr_laws_toRuleS:=rfl
theorem F_laws_toSystem:mc.F f_laws_toSystem=some tr_laws_toSystem:=rfl
theorem F_spec_l1In:mc.F f_spec_l1In=some tr_spec_l1In:=rfl
theorem F_spec_l2Var:mc.F f_spec_l2Var=some tr_spec_l2Var:=rfl
theorem F_spec_l1One:mc.F f_spec_l1One=some tr_spec_l1One:=rfl
theorem F_spec_l1Kind:mc.F f_spec_l1Kind=some tr_spec_l1Kind:=rfl
theorem F_spec_KindsOf:mc.F f_spec_KindsOf=some tr_spec_KindsOf:=rfl
theorem F_spec_l2Is:mc.F f_spec_l2Is=some tr_spec_l2Is:=rfl
theorem F_spec_l2Rule:mc.F f_spec_l2Rule=some tr_spec_l2Rule:=rfl
theorem F_spec_SystemValid:mc.F f_spec_SystemValid=some tr_spec_SystemValid:=rfl
theorem F_spec_RulesSet:mc.F f_spec_RulesSet=some tr_spec_RulesSet:=rfl
theorem F_spec_l23Asked:mc.F f_spec_l23Asked=some tr_spec_l23Asked:=rfl
theorem F_spec_SizeOf:mc.F f_spec_SizeOf=some tr_spec_SizeOf:=rfl
theorem F_spec_SetValid:mc.F f_spec_SetValid=some tr_spec_SetValid:=rfl
theorem F_spec_FirstState:mc.F f_spec_FirstState=some tr_spec_FirstState:=rfl
theorem F_spec_l3Copy:mc.F f_spec_l3Copy=some tr_spec_l3Copy:=rfl
theorem F_spec_l4State:mc.F f_spec_l4State=some tr_spec_l4State:=rfl
theorem F_spec_l1Held:mc.F f_spec_l1Held=some tr_spec_l1Held:=rfl
theorem F_spec_l1Truth:mc.F f_spec_l1Truth=some tr_spec_l1Truth:=rfl
theorem F_spec_l1Do:mc.F f_spec_l1Do=some tr_spec_l1Do:=rfl
theorem F_spec_l1Values:mc.F f_spec_l1Values=some tr_spec_l1Values:=rfl
theorem F_spec_l2Last:mc.F f_spec_l2Last=some tr_spec_l2Last:=rfl
theorem F_spec_l2In:mc.F f_spec_l2In=some tr_spec_l2In:=rfl
theorem F_spec_l2Use:mc.F f_spec_l2Use=some tr_spec_l2Use:=rfl
theorem F_spec_l2Same:mc.F f_spec_l2Same=some tr_spec_l2Same:=rfl
theorem F_spec_l2Less:mc.F f_spec_l2Less=some tr_spec_l2Less:=rfl
theorem F_spec_l2Put:mc.F f_spec_l2Put=some tr_spec_l2Put:=rfl
theorem F_spec_l2Next:mc.F f_spec_l2Next=some tr_spec_l2Next:=rfl
theorem F_spec_l4Number:mc.F f_spec_l4Number=some tr_spec_l4Number:=rfl
theorem F_spec_l4Steps:mc.F f_spec_l4Steps=some tr_spec_l4Steps:=rfl
theorem F_spec_l23Usable:mc.F f_spec_l23Usable=some tr_spec_l23Usable:=rfl
theorem F_spec_l4Marks:mc.F f_spec_l4Marks=some tr_spec_l4Marks:=rfl
theorem F_spec_l2Has:mc.F f_spec_l2Has=some tr_spec_l2Has:=rfl
theorem F_spec_l5Turned:mc.F f_spec_l5Turned=some tr_spec_l5Turned:=rfl
theorem F_spec_l5Steps:mc.F f_spec_l5Steps=some tr_spec_l5Steps:=rfl
theorem F_spec_l5Parts:mc.F f_spec_l5Parts=some tr_spec_l5Parts:=rfl
theorem F_spec_l23Parts:mc.F f_spec_l23Parts=some tr_spec_l23Parts:=rfl
theorem F_spec_l23Target:mc.F f_spec_l23Target=some tr_spec_l23Target:=rfl
theorem F_spec_l23Inner:mc.F f_spec_l23Inner=some tr_spec_l23Inner:=rfl
theorem F_spec_l23Strong:mc.F f_spec_l23Strong=some tr_spec_l23Strong:=rfl
theorem F_spec_l23Weak:mc.F f_spec_l23Weak=some tr_spec_l23Weak:=rfl
theorem F_spec_l23Cores:mc.F f_spec_l23Cores=some tr_spec_l23Cores:=rfl
theorem F_spec_FairCores:mc.F f_spec_FairCores=some tr_spec_FairCores:=rfl
theorem F_impl_in:mc.F f_impl_in=some tr_impl_in:=rfl
theorem F_impl_varOk:mc.F f_impl_varOk=some tr_impl_varOk:=rfl
theorem F_impl_size:mc.F f_impl_size=some tr_impl_size:=rfl
theorem F_impl_parts:mc.F f_impl_parts=some tr_impl_parts:=rfl
theorem F_impl_kindsOf:mc.F f_impl_kindsOf=some tr_impl_kindsOf:=rfl
theorem F_impl_kindOf:mc.F f_impl_kindOf=some tr_impl_kindOf:=rfl
theorem F_impl_ruleOk:mc.F f_impl_ruleOk=some tr_impl_ruleOk:=rfl
theorem F_impl_SystemValid:mc.F f_impl_SystemValid=some tr_impl_SystemValid:=rfl
theorem F_impl_setOk:mc.F f_impl_setOk=some tr_impl_setOk:=rfl
theorem F_impl_rulesOk:mc.F f_impl_rulesOk=some tr_impl_rulesOk:=rfl
theorem F_impl_stateAt:mc.F f_impl_stateAt=some tr_impl_stateAt:=rfl
theorem F_impl_held:mc.F f_impl_held=some tr_impl_held:=rfl
theorem F_impl_bit:mc.F f_impl_bit=some tr_impl_bit:=rfl
theorem F_impl_do:mc.F f_impl_do=some tr_impl_do:=rfl
theorem F_impl_eval:mc.F f_impl_eval=some tr_impl_eval:=rfl
theorem F_impl_clone_int:mc.F f_impl_clone_int=some tr_impl_clone_int:=rfl
theorem F_impl_inRange:mc.F f_impl_inRange=some tr_impl_inRange:=rfl
theorem F_impl_use:mc.F f_impl_use=some tr_impl_use:=rfl
theorem F_cmp_isNaN_int:mc.F f_cmp_isNaN_int=some tr_cmp_isNaN_int:=rfl
theorem F_cmp_Compare_int:mc.F f_cmp_Compare_int=some tr_cmp_Compare_int:=rfl
theorem F_slices_Compare_Sint_int:mc.F f_slices_Compare_Sint_int=some tr_slices_Compare_Sint_int:=rfl
theorem F_slices_Reverse_SSint_Sint:mc.F f_slices_Reverse_SSint_Sint=some tr_slices_Reverse_SSint_Sint:=rfl
theorem F_impl_clone_Sint:mc.F f_impl_clone_Sint=some tr_impl_clone_Sint:=rfl
theorem F_impl_nextStates:mc.F f_impl_nextStates=some tr_impl_nextStates:=rfl
theorem F_impl_number:mc.F f_impl_number=some tr_impl_number:=rfl
theorem F_impl_nexts:mc.F f_impl_nexts=some tr_impl_nexts:=rfl
theorem F_math_bits_Mul32:mc.F f_math_bits_Mul32=some tr_math_bits_Mul32:=rfl
theorem F_math_bits_Mul64:mc.F f_math_bits_Mul64=some tr_math_bits_Mul64:=rfl
theorem F_math_bits_Mul:mc.F f_math_bits_Mul=some tr_math_bits_Mul:=rfl
theorem F_slices_Repeat_Sint_int:mc.F f_slices_Repeat_Sint_int=some tr_slices_Repeat_Sint_int:=rfl
theorem F_impl_fairnessOf:mc.F f_impl_fairnessOf=some tr_impl_fairnessOf:=rfl
theorem F_slices_Index_Sint_int:mc.F f_slices_Index_Sint_int=some tr_slices_Index_Sint_int:=rfl
theorem F_slices_Min_Sint_int:mc.F f_slices_Min_Sint_int=some tr_slices_Min_Sint_int:=rfl
theorem F_impl_tarjan_1:mc.F f_impl_tarjan_1=some tr_impl_tarjan_1:=rfl
theorem F_impl_tarjan:mc.F f_impl_tarjan=some tr_impl_tarjan:=rfl
theorem F_impl_listOf:mc.F f_impl_listOf=some tr_impl_listOf:=rfl
theorem F_slices_Contains_Sint_int:mc.F f_slices_Contains_Sint_int=some tr_slices_Contains_Sint_int:=rfl
theorem F_impl_fairness_leads:mc.F f_impl_fairness_leads=some tr_impl_fairness_leads:=rfl
theorem F_slices_Clone_Sbool_bool:mc.F f_slices_Clone_Sbool_bool=some tr_slices_Clone_Sbool_bool:=rfl
theorem F_impl_fairness_cores:mc.F f_impl_fairness_cores=some tr_impl_fairness_cores:=rfl
theorem F_laws_eqIntS:mc.F f_laws_eqIntS=some tr_laws_eqIntS:=rfl
theorem F_laws_eqVar:mc.F f_laws_eqVar=some tr_laws_eqVar:=rfl
theorem F_laws_eqVarS:mc.F f_laws_eqVarS=some tr_laws_eqVarS:=rfl
theorem F_laws_eqTerm:mc.F f_laws_eqTerm=some tr_laws_eqTerm:=rfl
theorem F_laws_eqTermS:mc.F f_laws_eqTermS=some tr_laws_eqTermS:=rfl
theorem F_laws_eqTermSS:mc.F f_laws_eqTermSS=some tr_laws_eqTermSS:=rfl
theorem F_laws_eqRule:mc.F f_laws_eqRule=some tr_laws_eqRule:=rfl
theorem F_laws_eqRuleS:mc.F f_laws_eqRuleS=some tr_laws_eqRuleS:=rfl
theorem F_laws_eqSystem:mc.F f_laws_eqSystem=some tr_laws_eqSystem:=rfl
theorem F_spec_l14Range:mc.F f_spec_l14Range=some tr_spec_l14Range:=rfl
theorem F_impl_pasts:mc.F f_impl_pasts=some tr_impl_pasts:=rfl
theorem F_slices_Concat_Sint_int:mc.F f_slices_Concat_Sint_int=some tr_slices_Concat_Sint_int:=rfl
theorem F_impl_reach:mc.F f_impl_reach=some tr_impl_reach:=rfl
theorem F_impl_fairness_fairWithin:mc.F f_impl_fairness_fairWithin=some tr_impl_fairness_fairWithin:=rfl
theorem F_impl_truthOf:mc.F f_impl_truthOf=some tr_impl_truthOf:=rfl
theorem F_impl_where:mc.F f_impl_where=some tr_impl_where:=rfl
theorem F_impl_goodIn:mc.F f_impl_goodIn=some tr_impl_goodIn:=rfl
theorem F_impl_first:mc.F f_impl_first=some tr_impl_first:=rfl
theorem F_impl_AlwaysComes:mc.F f_impl_AlwaysComes=some tr_impl_AlwaysComes:=rfl
theorem F_spec_StatesWhere:mc.F f_spec_StatesWhere=some tr_spec_StatesWhere:=rfl
theorem F_spec_l4Set:mc.F f_spec_l4Set=some tr_spec_l4Set:=rfl
theorem F_spec_l4Mix:mc.F f_spec_l4Mix=some tr_spec_l4Mix:=rfl
theorem F_spec_SetWithout:mc.F f_spec_SetWithout=some tr_spec_SetWithout:=rfl
theorem F_spec_l4Ahead:mc.F f_spec_l4Ahead=some tr_spec_l4Ahead:=rfl
theorem F_spec_l4List:mc.F f_spec_l4List=some tr_spec_l4List:=rfl
theorem F_spec_FairWithin:mc.F f_spec_FairWithin=some tr_spec_FairWithin:=rfl
theorem F_spec_AlwaysComes:mc.F f_spec_AlwaysComes=some tr_spec_AlwaysComes:=rfl
theorem F_laws_FnExactAlwaysComes:mc.F f_laws_FnExactAlwaysComes=some tr_laws_FnExactAlwaysComes:=rfl
end Go.Proofs.YtknlennollmgeaaGreat
