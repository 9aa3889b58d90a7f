/- What the functions of the law come to, as trees; printed by a program; no condition. -/
import Derived.Test.YtdgpohclhppodaaGreatSmLib4
namespace Go.Proofs.YtdgpohclhppodaaGreat
open Go Go.Sm Go.Sm.Q
abbrev f_spec_l40Open:Nat:=141
abbrev f_spec_l40Rd_pick:Nat:=144
abbrev f_spec_l40Rd_num:Nat:=143
abbrev f_spec_l2VarOf:Nat:=255
abbrev f_spec_l2Const:Nat:=224
abbrev f_spec_l2Cond:Nat:=182
abbrev f_spec_l1In:Nat:=72
abbrev f_spec_l1One:Nat:=291
abbrev f_spec_l1Kind:Nat:=239
abbrev f_spec_KindsOf:Nat:=160
abbrev f_spec_TermsValid:Nat:=292
abbrev f_spec_l1Moved:Nat:=293
abbrev f_spec_Joined:Nat:=226
abbrev f_spec_l2When:Nat:=146
abbrev f_spec_l1Number:Nat:=289
abbrev f_spec_l1Pick:Nat:=290
abbrev f_spec_l1Terms:Nat:=225
abbrev f_spec_l2Value:Nat:=314
abbrev f_spec_l2Rules:Nat:=288
abbrev f_spec_l2System:Nat:=223
abbrev f_spec_l2Any:Nat:=142
abbrev f_spec_l2Var:Nat:=73
abbrev f_spec_l1Any:Nat:=145
abbrev f_impl_in:Nat:=64
abbrev f_impl_varOk:Nat:=67
abbrev f_impl_size:Nat:=68
abbrev f_impl_parts:Nat:=252
abbrev f_impl_kindsOf:Nat:=178
abbrev f_impl_kindOf:Nat:=173
abbrev f_impl_ruleOk:Nat:=71
abbrev f_impl_SystemValid:Nat:=11
abbrev f_impl_held:Nat:=253
abbrev f_impl_bit:Nat:=254
abbrev f_impl_do:Nat:=179
abbrev f_impl_eval:Nat:=86
abbrev f_impl_clone_int:Nat:=51
abbrev f_impl_first:Nat:=42
abbrev f_impl_inRange:Nat:=100
abbrev f_impl_use:Nat:=87
abbrev f_slices_Equal_Sint_int:Nat:=78
abbrev f_impl_ruleBetween:Nat:=192
abbrev f_spec_l2Is:Nat:=52
abbrev f_spec_l2Rule:Nat:=74
abbrev f_spec_SystemValid:Nat:=12
abbrev f_spec_FirstState:Nat:=55
abbrev f_spec_l3Copy:Nat:=63
abbrev f_spec_l1Held:Nat:=317
abbrev f_spec_l1Truth:Nat:=306
abbrev f_spec_l1Do:Nat:=302
abbrev f_spec_l1Values:Nat:=258
abbrev f_spec_l2Last:Nat:=188
abbrev f_spec_l2In:Nat:=104
abbrev f_spec_l2Use:Nat:=240
abbrev f_spec_l2Same:Nat:=102
abbrev f_spec_l2Less:Nat:=299
abbrev f_spec_l2Put:Nat:=241
abbrev f_spec_l2Next:Nat:=163
abbrev f_spec_l2Some:Nat:=181
abbrev f_spec_l3Laced:Nat:=88
abbrev f_spec_l20Asked:Nat:=89
abbrev f_spec_l20One:Nat:=256
abbrev f_spec_l20Draw:Nat:=183
abbrev f_spec_l20Any:Nat:=90
abbrev f_spec_DrawHoldsOnRun:Nat:=18
abbrev f_impl_factsOk:Nat:=91
abbrev f_impl_lassoOk:Nat:=98
abbrev f_slices_Concat_SSint_Sint:Nat:=99
abbrev f_impl_usableIn:Nat:=191
abbrev f_impl_follows:Nat:=101
abbrev f_impl_LassoValid:Nat:=21
abbrev f_impl_TimesValid:Nat:=92
abbrev f_impl_letters:Nat:=106
abbrev f_impl_word:Nat:=94
abbrev f_impl_timesOn:Nat:=93
abbrev f_impl_HoldsOnRun:Nat:=19
abbrev f_spec_l20Facts:Nat:=95
abbrev f_spec_l3At:Nat:=103
abbrev f_spec_l3Follows:Nat:=105
abbrev f_spec_LassoValid:Nat:=22
abbrev f_spec_l20Of:Nat:=96
abbrev f_spec_l20Step:Nat:=303
abbrev f_spec_TimesValid:Nat:=259
abbrev f_spec_l6Are:Nat:=318
abbrev f_spec_l20Letters:Nat:=304
abbrev f_spec_WordValid:Nat:=260
abbrev f_spec_l20Next:Nat:=307
abbrev f_spec_l20Later:Nat:=305
abbrev f_spec_l20Row:Nat:=261
abbrev f_spec_TimesOn:Nat:=189
abbrev f_spec_HoldsOn:Nat:=97
abbrev f_spec_HoldsOnRun:Nat:=20
abbrev f_impl_LettersOf:Nat:=23
abbrev f_impl_bitsValid:Nat:=308
abbrev f_impl_letterOk:Nat:=263
abbrev f_impl_WordValid:Nat:=193
abbrev f_impl_TimesOn:Nat:=107
abbrev f_impl_HoldsOn:Nat:=24
abbrev f_laws_FnHoldsOnRun:Nat:=4
abbrev f_slices_Grow_SSint_Sint:Nat:=190
def tr_spec_l40Open:Tr:=.join
 (.ite (gt (ln (v (L U) 0)) (c 2000))
 (.guard (le (c 2000) (ln (re false (v (L U) 0))))
 (.jump 0 [a (take (re false (v (L U) 0)) (c 2000))]))
 (.jump 0 [a (v (L U) 0)]))
 (.ret [a (pr (v (L U) 0) (c 0))])
def tr_spec_l40Rd_pick:Tr:=.ite (lt (v I 1) (c 1))
 (.ret [a (c 0),a (pr (f (v (P (L U) I) 0)) (add (s (v (P (L U) I) 0)) (c 1)))])
 (.ite (eq (ln (f (v (P (L U) I) 0))) (c 0))
 (.ret [a (c 0),a (pr (f (v (P (L U) I) 0)) (add (s (v (P (L U) I) 0)) (c 1)))])
 (.ite (lt (sub (add (s (v (P (L U) I) 0)) (c 1)) (c 1)) (ln (f (v (P (L U) I) 0))))
 (.guard (le (c 0) (sub (add (s (v (P (L U) I) 0)) (c 1)) (c 1)))
 (.guard (lt (sub (add (s (v (P (L U) I) 0)) (c 1)) (c 1)) (ln (f (v (P (L U) I) 0))))
 (.guard (ne (v I 1) (c 0))
 (.ret [a (rem (.o1 (.conv .u8 .i64) (ix (f (v (P (L U) I) 0)) (sub (add (s (v (P (L U) I) 0)) (c 1)) (c 1)))) (v I 1)),a (pr (f (v (P (L U) I) 0)) (add (s (v (P (L U) I) 0)) (c 1)))]))))
 (.guard (ne (ln (f (v (P (L U) I) 0))) (c 0))
 (.guard (le (c 0) (rem (sub (add (s (v (P (L U) I) 0)) (c 1)) (c 1)) (ln (f (v (P (L U) I) 0)))))
 (.guard (lt (rem (sub (add (s (v (P (L U) I) 0)) (c 1)) (c 1)) (ln (f (v (P (L U) I) 0)))) (ln (f (v (P (L U) I) 0))))
 (.guard (ne (ln (f (v (P (L U) I) 0))) (c 0))
 (.guard (le (c 0) (rem (add (mul (sub (add (s (v (P (L U) I) 0)) (c 1)) (c 1)) (c 7)) (c 3)) (ln (f (v (P (L U) I) 0)))))
 (.guard (lt (rem (add (mul (sub (add (s (v (P (L U) I) 0)) (c 1)) (c 1)) (c 7)) (c 3)) (ln (f (v (P (L U) I) 0)))) (ln (f (v (P (L U) I) 0))))
 (.guard (ne (ln (f (v (P (L U) I) 0))) (c 0))
 (.guard (ne (v I 1) (c 0))
 (.ret [a (rem (ar .xor (add (add (add (mul (.o1 (.conv .u8 .i64) (ix (f (v (P (L U) I) 0)) (rem (sub (add (s (v (P (L U) I) 0)) (c 1)) (c 1)) (ln (f (v (P (L U) I) 0)))))) (c 131)) (mul (.o1 (.conv .u8 .i64) (ix (f (v (P (L U) I) 0)) (rem (add (mul (sub (add (s (v (P (L U) I) 0)) (c 1)) (c 1)) (c 7)) (c 3)) (ln (f (v (P (L U) I) 0)))))) (c 1117))) (mul (sub (add (s (v (P (L U) I) 0)) (c 1)) (c 1)) (c 29))) (mul (quo (sub (add (s (v (P (L U) I) 0)) (c 1)) (c 1)) (ln (f (v (P (L U) I) 0)))) (c 53))) (quo (add (add (add (mul (.o1 (.conv .u8 .i64) (ix (f (v (P (L U) I) 0)) (rem (sub (add (s (v (P (L U) I) 0)) (c 1)) (c 1)) (ln (f (v (P (L U) I) 0)))))) (c 131)) (mul (.o1 (.conv .u8 .i64) (ix (f (v (P (L U) I) 0)) (rem (add (mul (sub (add (s (v (P (L U) I) 0)) (c 1)) (c 1)) (c 7)) (c 3)) (ln (f (v (P (L U) I) 0)))))) (c 1117))) (mul (sub (add (s (v (P (L U) I) 0)) (c 1)) (c 1)) (c 29))) (mul (quo (sub (add (s (v (P (L U) I) 0)) (c 1)) (c 1)) (ln (f (v (P (L U) I) 0)))) (c 53))) (c 64))) (v I 1)),a (pr (f (v (P (L U) I) 0)) (add (s (v (P (L U) I) 0)) (c 1)))])))))))))))
def tr_spec_l40Rd_num:Tr:=.call f_spec_l40Rd_pick [a (pr (f (v (P (L U) I) 0)) (s (v (P (L U) I) 0))),a (ln (v (L I) 1))] 100320
 (.guard (le (c 0) (v I 100320))
 (.guard (lt (v I 100320) (ln (v (L I) 1)))
 (.ret [a (ix (v (L I) 1) (v I 100320)),a (pr (f (v (P (L U) I) 0)) (s (v (P (L U) I) 100321)))])))
def tr_spec_l2VarOf:Tr:=.ret [a (c 1),a (v I 0),a (c 0),a (c 0)]
def tr_spec_l2Const:Tr:=.ret [a (c 0),a (v I 0),a (c 0),a (c 0)]
def tr_spec_l2Cond:Tr:=.call f_spec_l40Rd_pick [a (pr (f (v (P (L U) I) 0)) (s (v (P (L U) I) 0))),a (add (sub (v I 2) (v I 1)) (c 1))] 100704
 (.join
 (.jump 0 [a (v I 4),a (add (v I 1) (v I 100704)),a (f (v (P (L U) I) 0)),a (s (v (P (L U) I) 100705))])
 (.call f_spec_l40Rd_num [a (pr (v (L U) 2) (v I 3)),a (app (one (c 6)) (app (one (c 5)) (app (one (c 5)) (one (c 6)))))] 133
 (.call f_spec_l2VarOf [a (v I 0)] 325
 (.call f_spec_l2Const [a (v I 1)] 453
 (.join
 (.call f_spec_l40Rd_pick [a (pr (v (L U) 2) (s (v (P (L U) I) 134))),a (c 3)] 837
 (.ite (eq (v I 837) (c 0))
 (.guard (le (ln (app (one (pr (v I 325) (pr (v I 326) (pr (v I 327) (v I 328))))) (app (one (pr (v I 453) (pr (v I 454) (pr (v I 455) (v I 456))))) (one (pr (v I 133) (pr (c 0) (pr (c 0) (c 1)))))))) (c 549755813888))
 (.guard (le (ln (one (pr (c 7) (pr (c 0) (pr (c 2) (c 2)))))) (c 549755813888))
 (.jump 0 [a (v (L U) 2),a (s (v (P (L U) I) 838)),a (app (app (one (pr (v I 325) (pr (v I 326) (pr (v I 327) (v I 328))))) (app (one (pr (v I 453) (pr (v I 454) (pr (v I 455) (v I 456))))) (one (pr (v I 133) (pr (c 0) (pr (c 0) (c 1))))))) (one (pr (c 7) (pr (c 0) (pr (c 2) (c 2))))))])))
 (.jump 0 [a (v (L U) 2),a (s (v (P (L U) I) 838)),a (app (one (pr (v I 325) (pr (v I 326) (pr (v I 327) (v I 328))))) (app (one (pr (v I 453) (pr (v I 454) (pr (v I 455) (v I 456))))) (one (pr (v I 133) (pr (c 0) (pr (c 0) (c 1)))))))])))
 (.ret [a (v (L T4) 2),a (pr (v (L U) 0) (v I 1))]))))))
def tr_spec_l1In:Tr:=.ite (ge (v I 0) (v I 1))
 (.ret [a (le (v I 0) (v I 2))])
 (.ret [a (k false)])
def tr_spec_l1One:Tr:=.ret [a (eq (v I 0) (c 7))]
def tr_spec_l1Kind:Tr:=.join
 (.ite (eq (v I 0) (c 0))
 (.call f_spec_l1In [a (v I 1),a (c (-9999)),a (c 9999)] 100512
 (.ite (v B 100512)
 (.ite (eq (v I 2) (c 0))
 (.ite (eq (v I 3) (c 0))
 (.ret [a (c 1)])
 (.jump 0 [a (v (L I) 4),a (v I 5),a (v I 0),a (v I 1),a (v I 2),a (v I 3)]))
 (.jump 0 [a (v (L I) 4),a (v I 5),a (v I 0),a (v I 1),a (v I 2),a (v I 3)]))
 (.jump 0 [a (v (L I) 4),a (v I 5),a (v I 0),a (v I 1),a (v I 2),a (v I 3)])))
 (.jump 0 [a (v (L I) 4),a (v I 5),a (v I 0),a (v I 1),a (v I 2),a (v I 3)]))
 (.join
 (.ite (eq (v I 2) (c 1))
 (.call f_spec_l1In [a (v I 3),a (c 0),a (sub (v I 1) (c 1))] 519
 (.ite (v B 519)
 (.ite (eq (v I 4) (c 0))
 (.ite (eq (v I 5) (c 0))
 (.ret [a (c 1)])
 (.jump 0 [a (v (L I) 0),a (v I 2),a (v I 3),a (v I 4),a (v I 5)]))
 (.jump 0 [a (v (L I) 0),a (v I 2),a (v I 3),a (v I 4),a (v I 5)]))
 (.jump 0 [a (v (L I) 0),a (v I 2),a (v I 3),a (v I 4),a (v I 5)])))
 (.jump 0 [a (v (L I) 0),a (v I 2),a (v I 3),a (v I 4),a (v I 5)]))
 (.call f_spec_l1In [a (v I 1),a (c 2),a (c 9)] 134
 (.ite (nt (v B 134))
 (.ret [a (c 0)])
 (.ite (ne (v I 2) (c 0))
 (.ret [a (c 0)])
 (.call f_spec_l1In [a (v I 3),a (c 0),a (sub (ln (v (L I) 0)) (c 1))] 966
 (.ite (nt (v B 966))
 (.ret [a (c 0)])
 (.call f_spec_l1In [a (v I 4),a (c 0),a (sub (ln (v (L I) 0)) (c 1))] 1542
 (.ite (nt (v B 1542))
 (.ret [a (c 0)])
 (.join
 (.ite (ge (v I 1) (c 7))
 (.jump 0 [a (v (L I) 0),a (c 2),a (v I 1),a (v I 2),a (v I 3),a (v I 4)])
 (.jump 0 [a (v (L I) 0),a (c 1),a (v I 1),a (v I 2),a (v I 3),a (v I 4)]))
 (.join
 (.guard (le (c 0) (v I 4))
 (.guard (lt (v I 4) (ln (v (L I) 0)))
 (.ite (ne (ix (v (L I) 0) (v I 4)) (v I 1))
 (.ret [a (c 0)])
 (.guard (le (c 0) (v I 5))
 (.guard (lt (v I 5) (ln (v (L I) 0)))
 (.ite (ne (ix (v (L I) 0) (v I 5)) (v I 1))
 (.ret [a (c 0)])
 (.call f_spec_l1One [a (v I 2)] 1223
 (.ite (v B 1223)
 (.ite (ne (v I 5) (v I 4))
 (.ret [a (c 0)])
 (.jump 0 [a (v I 2),a (v I 3),a (v I 4),a (v I 5)]))
 (.jump 0 [a (v I 2),a (v I 3),a (v I 4),a (v I 5)])))))))))
 (.ite (ge (v I 0) (c 5))
 (.ret [a (c 2)])
 (.ret [a (c 1)]))))))))))))
def tr_spec_KindsOf:Tr:=.call f_spec_l1In [a (v I 1),a (c 0),a (c 5)] 100128
 (.ite (nt (v B 100128))
 (.ret [a (nl I)])
 (.call f_spec_l1In [a (ln (v (L T4) 0)),a (c 1),a (c 40)] 100448
 (.ite (nt (v B 100448))
 (.ret [a (nl I)])
 (.loop [a (v (L T4) 0),a (v I 1),a (c 0),a (nl I)]
 (.ite (lt (v I 2) (ln (v (L T4) 0)))
 (.guard (le (c 0) (v I 2))
 (.guard (lt (v I 2) (ln (v (L T4) 0)))
 (.call f_spec_l1Kind [a (f (ix (v (L T4) 0) (v I 2))),a (f (s (ix (v (L T4) 0) (v I 2)))),a (f (s (s (ix (v (L T4) 0) (v I 2))))),a (s (s (s (ix (v (L T4) 0) (v I 2))))),a (v (L I) 3),a (v I 1)] 645
 (.ite (eq (v I 645) (c 0))
 (.ret [a (nl I)])
 (.guard (le (ln (v (L I) 3)) (c 549755813888))
 (.guard (le (ln (one (v I 645))) (c 549755813888))
 (.jump 0 [a (v (L T4) 0),a (v I 1),a (add (v I 2) (c 1)),a (app (v (L I) 3) (one (v I 645)))])))))))
 (.ret [a (v (L I) 3)]))))))
def tr_spec_TermsValid:Tr:=.call f_spec_KindsOf [a (v (L T4) 0),a (v I 1)] 100192
 (.ret [a (gt (ln (v (L I) 100192)) (c 0))])
def tr_spec_l1Moved:Tr:=.ite (ge (v I 0) (c 2))
 (.ret [a (v I 0),a (c 0),a (add (v I 2) (v I 4)),a (add (v I 3) (v I 4))])
 (.ret [a (v I 0),a (v I 1),a (v I 2),a (v I 3)])
def tr_spec_Joined:Tr:=.call f_spec_TermsValid [a (v (L T4) 1),a (v I 3)] 100192
 (.ite (nt (v B 100192))
 (.ret [a (nl T4)])
 (.call f_spec_TermsValid [a (v (L T4) 2),a (v I 3)] 100512
 (.ite (nt (v B 100512))
 (.ret [a (nl T4)])
 (.loop [a (v I 0),a (v (L T4) 1),a (v (L T4) 2),a (v I 3),a (c 0),a (nl T4)]
 (.ite (lt (v I 4) (ln (v (L T4) 1)))
 (.guard (le (c 0) (v I 4))
 (.guard (lt (v I 4) (ln (v (L T4) 1)))
 (.guard (le (ln (v (L T4) 5)) (c 549755813888))
 (.guard (le (ln (one (pr (f (ix (v (L T4) 1) (v I 4))) (pr (f (s (ix (v (L T4) 1) (v I 4)))) (pr (f (s (s (ix (v (L T4) 1) (v I 4))))) (s (s (s (ix (v (L T4) 1) (v I 4)))))))))) (c 549755813888))
 (.jump 0 [a (v I 0),a (v (L T4) 1),a (v (L T4) 2),a (v I 3),a (add (v I 4) (c 1)),a (app (v (L T4) 5) (one (pr (f (ix (v (L T4) 1) (v I 4))) (pr (f (s (ix (v (L T4) 1) (v I 4)))) (pr (f (s (s (ix (v (L T4) 1) (v I 4))))) (s (s (s (ix (v (L T4) 1) (v I 4))))))))))])))))
 (.join
 (.loop [a (v I 0),a (v (L T4) 1),a (v (L T4) 2),a (v I 3),a (c 0),a (v (L T4) 5)]
 (.ite (lt (v I 4) (ln (v (L T4) 2)))
 (.call f_spec_l1One [a (v I 0)] 391
 (.ite (nt (v B 391))
 (.guard (le (c 0) (v I 4))
 (.guard (lt (v I 4) (ln (v (L T4) 2)))
 (.call f_spec_l1Moved [a (f (ix (v (L T4) 2) (v I 4))),a (f (s (ix (v (L T4) 2) (v I 4)))),a (f (s (s (ix (v (L T4) 2) (v I 4))))),a (s (s (s (ix (v (L T4) 2) (v I 4))))),a (ln (v (L T4) 1))] 1031
 (.guard (le (ln (v (L T4) 5)) (c 549755813888))
 (.guard (le (ln (one (pr (v I 1031) (pr (v I 1032) (pr (v I 1033) (v I 1034)))))) (c 549755813888))
 (.jump 0 [a (v I 0),a (v (L T4) 1),a (v (L T4) 2),a (v I 3),a (add (v I 4) (c 1)),a (app (v (L T4) 5) (one (pr (v I 1031) (pr (v I 1032) (pr (v I 1033) (v I 1034))))))]))))))
 (.jump 1 [a (v I 0),a (v (L T4) 1),a (v I 3),a (v (L T4) 5)])))
 (.jump 1 [a (v I 0),a (v (L T4) 1),a (v I 3),a (v (L T4) 5)])))
 (.guard (le (ln (v (L T4) 3)) (c 549755813888))
 (.guard (le (ln (one (pr (v I 0) (pr (c 0) (pr (sub (ln (v (L T4) 1)) (c 1)) (sub (ln (v (L T4) 3)) (c 1))))))) (c 549755813888))
 (.ite (lt (v I 0) (c 2))
 (.ret [a (nl T4)])
 (.call f_spec_TermsValid [a (app (v (L T4) 3) (one (pr (v I 0) (pr (c 0) (pr (sub (ln (v (L T4) 1)) (c 1)) (sub (ln (v (L T4) 3)) (c 1))))))),a (v I 2)] 1093
 (.ite (nt (v B 1093))
 (.ret [a (nl T4)])
 (.ret [a (app (v (L T4) 3) (one (pr (v I 0) (pr (c 0) (pr (sub (ln (v (L T4) 1)) (c 1)) (sub (ln (v (L T4) 3)) (c 1)))))))]))))))))))))
def tr_spec_l2When:Tr:=.call f_spec_l40Rd_pick [a (pr (f (v (P (L U) I) 0)) (s (v (P (L U) I) 0))),a (ln (v (L V3) 1))] 100256
 (.guard (le (c 0) (v I 100256))
 (.guard (lt (v I 100256) (ln (v (L V3) 1)))
 (.call f_spec_l2Cond [a (pr (f (v (P (L U) I) 0)) (s (v (P (L U) I) 100257))),a (f (ix (v (L V3) 1) (v I 100256))),a (f (s (ix (v (L V3) 1) (v I 100256)))),a (s (s (ix (v (L V3) 1) (v I 100256)))),a (v I 100256)] 100768
 (.join
 (.call f_spec_l40Rd_pick [a (pr (f (v (P (L U) I) 0)) (s (v (P (L U) I) 100769))),a (c 2)] 100960
 (.ite (eq (v I 100960) (c 0))
 (.call f_spec_l40Rd_pick [a (pr (f (v (P (L U) I) 0)) (s (v (P (L U) I) 100961))),a (ln (v (L V3) 1))] 101280
 (.guard (le (c 0) (v I 101280))
 (.guard (lt (v I 101280) (ln (v (L V3) 1)))
 (.call f_spec_l40Rd_num [a (pr (f (v (P (L U) I) 0)) (s (v (P (L U) I) 101281))),a (app (one (c 8)) (app (one (c 9)) (one (c 8))))] 102048
 (.call f_spec_l2Cond [a (pr (f (v (P (L U) I) 0)) (s (v (P (L U) I) 102049))),a (f (ix (v (L V3) 1) (v I 101280))),a (f (s (ix (v (L V3) 1) (v I 101280)))),a (s (s (ix (v (L V3) 1) (v I 101280)))),a (v I 101280)] 102176
 (.call f_spec_Joined [a (v I 102048),a (v (L T4) 100768),a (v (L T4) 102176),a (ln (v (L V3) 1))] 102240
 (.join
 (.jump 0 [a (f (v (P (L U) I) 0)),a (s (v (P (L U) I) 102177)),a (v (L T4) 102240)])
 (.jump 0 [a (v (L U) 0),a (v I 1),a (v (L T4) 2)]))))))))
 (.jump 0 [a (f (v (P (L U) I) 0)),a (s (v (P (L U) I) 100961)),a (v (L T4) 100768)])))
 (.ret [a (v (L T4) 2),a (pr (v (L U) 0) (v I 1))])))))
def tr_spec_l1Number:Tr:=.call f_spec_l40Rd_pick [a (pr (f (v (P (L U) I) 0)) (s (v (P (L U) I) 0))),a (c 4)] 100192
 (.call f_spec_l40Rd_pick [a (pr (f (v (P (L U) I) 0)) (s (v (P (L U) I) 100193))),a (c 4)] 100320
 (.call f_spec_l40Rd_pick [a (pr (f (v (P (L U) I) 0)) (s (v (P (L U) I) 100321))),a (c 7)] 100448
 (.call f_spec_l40Rd_pick [a (pr (f (v (P (L U) I) 0)) (s (v (P (L U) I) 100449))),a (c 200)] 100640
 (.call f_spec_l40Rd_pick [a (pr (f (v (P (L U) I) 0)) (s (v (P (L U) I) 100641))),a (c 4)] 100896
 (.guard (le (c 0) (v I 100896))
 (.guard (lt (v I 100896) (ln (app (one (c 9999)) (app (one (c (-9999))) (app (one (c 5000)) (one (c 100)))))))
 (.call f_spec_l40Rd_num [a (pr (f (v (P (L U) I) 0)) (s (v (P (L U) I) 100897))),a (app (one (v I 100192)) (app (one (v I 100320)) (app (one (sub (v I 100448) (c 3))) (app (one (c 1)) (app (one (c 0)) (app (one (sub (v I 100640) (c 100))) (one (ix (app (one (c 9999)) (app (one (c (-9999))) (app (one (c 5000)) (one (c 100))))) (v I 100896)))))))))] 101152
 (.ret [a (v I 101152),a (pr (f (v (P (L U) I) 0)) (s (v (P (L U) I) 101153)))]))))))))
def tr_spec_l1Pick:Tr:=.call f_spec_l40Rd_pick [a (pr (f (v (P (L U) I) 0)) (s (v (P (L U) I) 0))),a (ln (v (L I) 1))] 100256
 (.loop [a (v (L I) 1),a (v I 2),a (v I 100256),a (c 0),a (f (v (P (L U) I) 0)),a (s (v (P (L U) I) 100257))]
 (.ite (lt (v I 3) (ln (v (L I) 0)))
 (.guard (ne (ln (v (L I) 0)) (c 0))
 (.guard (le (c 0) (rem (add (v I 2) (v I 3)) (ln (v (L I) 0))))
 (.guard (lt (rem (add (v I 2) (v I 3)) (ln (v (L I) 0))) (ln (v (L I) 0)))
 (.ite (eq (ix (v (L I) 0) (rem (add (v I 2) (v I 3)) (ln (v (L I) 0)))) (v I 1))
 (.ret [a (rem (add (v I 2) (v I 3)) (ln (v (L I) 0))),a (pr (v (L U) 4) (v I 5))])
 (.jump 0 [a (v (L I) 0),a (v I 1),a (v I 2),a (add (v I 3) (c 1)),a (v (L U) 4),a (v I 5)])))))
 (.ret [a (c (-1)),a (pr (v (L U) 4) (v I 5))])))
def tr_spec_l1Terms:Tr:=.call f_spec_l40Rd_pick [a (pr (f (v (P (L U) I) 0)) (s (v (P (L U) I) 0))),a (v I 3)] 100448
 (.loop [a (v I 1),a (v I 2),a (add (c 2) (v I 100448)),a (f (v (P (L U) I) 0)),a (s (v (P (L U) I) 100449)),a (nl T4),a (nl I)]
 (.ite (gt (v I 2) (c 0))
 (.join
 (.call f_spec_l40Rd_num [a (pr (v (L U) 3) (v I 4)),a (app (one (c 0)) (app (one (c 1)) (app (one (c 1)) (app (one (c 2)) (app (one (c 3)) (app (one (c 4)) (app (one (c 5)) (app (one (c 6)) (app (one (c 5)) (app (one (c 6)) (app (one (c 7)) (app (one (c 8)) (one (c 9))))))))))))))] 266
 (.join
 (.ite (eq (ln (v (L T4) 5)) (c 0))
 (.call f_spec_l1Number [a (pr (v (L U) 3) (s (v (P (L U) I) 267)))] 1162
 (.ite (gt (v I 0) (c 0))
 (.ite (ne (v I 266) (c 0))
 (.call f_spec_l40Rd_pick [a (pr (v (L U) 3) (s (v (P (L U) I) 1163))),a (v I 0)] 1866
 (.jump 0 [a (v I 0),a (v I 1),a (v I 2),a (v (L U) 3),a (s (v (P (L U) I) 1867)),a (v (L T4) 5),a (v (L I) 6),a (c 1),a (v I 1866),a (c 0),a (c 0)]))
 (.jump 0 [a (v I 0),a (v I 1),a (v I 2),a (v (L U) 3),a (s (v (P (L U) I) 1163)),a (v (L T4) 5),a (v (L I) 6),a (c 0),a (v I 1162),a (c 0),a (c 0)]))
 (.jump 0 [a (v I 0),a (v I 1),a (v I 2),a (v (L U) 3),a (s (v (P (L U) I) 1163)),a (v (L T4) 5),a (v (L I) 6),a (c 0),a (v I 1162),a (c 0),a (c 0)])))
 (.ite (lt (v I 266) (c 2))
 (.call f_spec_l1Number [a (pr (v (L U) 3) (s (v (P (L U) I) 267)))] 1162
 (.ite (gt (v I 0) (c 0))
 (.ite (ne (v I 266) (c 0))
 (.call f_spec_l40Rd_pick [a (pr (v (L U) 3) (s (v (P (L U) I) 1163))),a (v I 0)] 1866
 (.jump 0 [a (v I 0),a (v I 1),a (v I 2),a (v (L U) 3),a (s (v (P (L U) I) 1867)),a (v (L T4) 5),a (v (L I) 6),a (c 1),a (v I 1866),a (c 0),a (c 0)]))
 (.jump 0 [a (v I 0),a (v I 1),a (v I 2),a (v (L U) 3),a (s (v (P (L U) I) 1163)),a (v (L T4) 5),a (v (L I) 6),a (c 0),a (v I 1162),a (c 0),a (c 0)]))
 (.jump 0 [a (v I 0),a (v I 1),a (v I 2),a (v (L U) 3),a (s (v (P (L U) I) 1163)),a (v (L T4) 5),a (v (L I) 6),a (c 0),a (v I 1162),a (c 0),a (c 0)])))
 (.join
 (.ite (ge (v I 266) (c 7))
 (.jump 0 [a (v I 0),a (v I 1),a (v I 2),a (v I 266),a (c 2),a (v (L U) 3),a (s (v (P (L U) I) 267)),a (v (L T4) 5),a (v (L I) 6),a (v I 266),a (c 0),a (c 0),a (c 0)])
 (.jump 0 [a (v I 0),a (v I 1),a (v I 2),a (v I 266),a (c 1),a (v (L U) 3),a (s (v (P (L U) I) 267)),a (v (L T4) 5),a (v (L I) 6),a (v I 266),a (c 0),a (c 0),a (c 0)]))
 (.call f_spec_l1Pick [a (pr (v (L U) 5) (v I 6)),a (v (L I) 8),a (v I 4)] 209
 (.call f_spec_l1Pick [a (pr (v (L U) 5) (s (v (P (L U) I) 210))),a (v (L I) 8),a (v I 4)] 593
 (.call f_spec_l1One [a (v I 3)] 849
 (.ite (v B 849)
 (.jump 0 [a (v I 0),a (v I 1),a (v I 2),a (v (L U) 5),a (s (v (P (L U) I) 594)),a (v (L T4) 7),a (v (L I) 8),a (v I 9),a (v I 10),a (v I 209),a (v I 209)])
 (.jump 0 [a (v I 0),a (v I 1),a (v I 2),a (v (L U) 5),a (s (v (P (L U) I) 594)),a (v (L T4) 7),a (v (L I) 8),a (v I 9),a (v I 10),a (v I 209),a (v I 593)]))))))))
 (.call f_spec_l1Kind [a (v I 7),a (v I 8),a (v I 9),a (v I 10),a (v (L I) 6),a (v I 0)] 207
 (.ite (ne (v I 207) (c 0))
 (.guard (le (ln (v (L T4) 5)) (c 549755813888))
 (.guard (le (ln (one (pr (v I 7) (pr (v I 8) (pr (v I 9) (v I 10)))))) (c 549755813888))
 (.guard (le (ln (v (L I) 6)) (c 549755813888))
 (.guard (le (ln (one (v I 207))) (c 549755813888))
 (.jump 0 [a (v I 0),a (v I 1),a (v I 2),a (v (L U) 3),a (v I 4),a (app (v (L T4) 5) (one (pr (v I 7) (pr (v I 8) (pr (v I 9) (v I 10)))))),a (app (v (L I) 6) (one (v I 207)))])))))
 (.jump 0 [a (v I 0),a (v I 1),a (v I 2),a (v (L U) 3),a (v I 4),a (v (L T4) 5),a (v (L I) 6)])))))
 (.jump 0 [a (v I 0),a (v I 1),a (sub (v I 2) (c 1)),a (v (L U) 3),a (v I 4),a (v (L T4) 5),a (v (L I) 6)]))
 (.join
 (.ite (eq (ln (v (L T4) 5)) (c 0))
 (.guard (le (ln (v (L T4) 5)) (c 549755813888))
 (.guard (le (ln (one (pr (c 0) (pr (c 1) (pr (c 0) (c 0)))))) (c 549755813888))
 (.guard (le (ln (v (L I) 6)) (c 549755813888))
 (.guard (le (ln (one (c 1))) (c 549755813888))
 (.jump 0 [a (v I 1),a (v (L U) 3),a (v I 4),a (app (v (L T4) 5) (one (pr (c 0) (pr (c 1) (pr (c 0) (c 0)))))),a (app (v (L I) 6) (one (c 1)))])))))
 (.jump 0 [a (v I 1),a (v (L U) 3),a (v I 4),a (v (L T4) 5),a (v (L I) 6)]))
 (.join
 (.ite (eq (v I 0) (c 2))
 (.guard (le (c 0) (sub (ln (v (L T4) 3)) (c 1)))
 (.guard (lt (sub (ln (v (L T4) 3)) (c 1)) (ln (v (L I) 4)))
 (.ite (ne (ix (v (L I) 4) (sub (ln (v (L T4) 3)) (c 1))) (v I 0))
 (.call f_spec_l40Rd_num [a (pr (v (L U) 1) (v I 2)),a (app (one (c 5)) (one (c 6)))] 1096
 (.call f_spec_l1Pick [a (pr (v (L U) 1) (s (v (P (L U) I) 1097))),a (v (L I) 4),a (c 1)] 1352
 (.guard (le (ln (v (L T4) 3)) (c 549755813888))
 (.guard (le (ln (one (pr (v I 1096) (pr (c 0) (pr (sub (ln (v (L T4) 3)) (c 1)) (v I 1352)))))) (c 549755813888))
 (.jump 0 [a (v (L U) 1),a (s (v (P (L U) I) 1353)),a (app (v (L T4) 3) (one (pr (v I 1096) (pr (c 0) (pr (sub (ln (v (L T4) 3)) (c 1)) (v I 1352))))))])))))
 (.ite (eq (v I 0) (c 1))
 (.guard (le (c 0) (sub (ln (v (L T4) 3)) (c 1)))
 (.guard (lt (sub (ln (v (L T4) 3)) (c 1)) (ln (v (L I) 4)))
 (.ite (ne (ix (v (L I) 4) (sub (ln (v (L T4) 3)) (c 1))) (v I 0))
 (.call f_spec_l1Pick [a (pr (v (L U) 1) (v I 2)),a (v (L I) 4),a (c 1)] 1672
 (.call f_spec_l40Rd_num [a (pr (v (L U) 1) (s (v (P (L U) I) 1673))),a (app (one (c 2)) (one (c 3)))] 1992
 (.call f_spec_l1Pick [a (pr (v (L U) 1) (s (v (P (L U) I) 1993))),a (v (L I) 4),a (c 1)] 2248
 (.guard (le (ln (v (L T4) 3)) (c 549755813888))
 (.guard (le (ln (one (pr (v I 1992) (pr (c 0) (pr (v I 1672) (v I 2248)))))) (c 549755813888))
 (.jump 0 [a (v (L U) 1),a (s (v (P (L U) I) 2249)),a (app (v (L T4) 3) (one (pr (v I 1992) (pr (c 0) (pr (v I 1672) (v I 2248))))))]))))))
 (.jump 0 [a (v (L U) 1),a (v I 2),a (v (L T4) 3)]))))
 (.jump 0 [a (v (L U) 1),a (v I 2),a (v (L T4) 3)])))))
 (.ite (eq (v I 0) (c 1))
 (.guard (le (c 0) (sub (ln (v (L T4) 3)) (c 1)))
 (.guard (lt (sub (ln (v (L T4) 3)) (c 1)) (ln (v (L I) 4)))
 (.ite (ne (ix (v (L I) 4) (sub (ln (v (L T4) 3)) (c 1))) (v I 0))
 (.call f_spec_l1Pick [a (pr (v (L U) 1) (v I 2)),a (v (L I) 4),a (c 1)] 1672
 (.call f_spec_l40Rd_num [a (pr (v (L U) 1) (s (v (P (L U) I) 1673))),a (app (one (c 2)) (one (c 3)))] 1992
 (.call f_spec_l1Pick [a (pr (v (L U) 1) (s (v (P (L U) I) 1993))),a (v (L I) 4),a (c 1)] 2248
 (.guard (le (ln (v (L T4) 3)) (c 549755813888))
 (.guard (le (ln (one (pr (v I 1992) (pr (c 0) (pr (v I 1672) (v I 2248)))))) (c 549755813888))
 (.jump 0 [a (v (L U) 1),a (s (v (P (L U) I) 2249)),a (app (v (L T4) 3) (one (pr (v I 1992) (pr (c 0) (pr (v I 1672) (v I 2248))))))]))))))
 (.jump 0 [a (v (L U) 1),a (v I 2),a (v (L T4) 3)]))))
 (.jump 0 [a (v (L U) 1),a (v I 2),a (v (L T4) 3)])))
 (.ret [a (v (L T4) 2),a (pr (v (L U) 0) (v I 1))])))))
def tr_spec_l2Value:Tr:=.call f_spec_l40Rd_pick [a (pr (f (v (P (L U) I) 0)) (s (v (P (L U) I) 0))),a (c 6)] 100128
 (.ite (lt (v I 100128) (c 3))
 (.call f_spec_l2VarOf [a (v I 2)] 100448
 (.call f_spec_l2Const [a (c 1)] 100512
 (.call f_spec_l40Rd_num [a (pr (f (v (P (L U) I) 0)) (s (v (P (L U) I) 100129))),a (app (one (c 2)) (one (c 3)))] 100704
 (.ret [a (app (one (pr (v I 100448) (pr (v I 100449) (pr (v I 100450) (v I 100451))))) (app (one (pr (v I 100512) (pr (v I 100513) (pr (v I 100514) (v I 100515))))) (one (pr (v I 100704) (pr (c 0) (pr (c 0) (c 1))))))),a (pr (f (v (P (L U) I) 0)) (s (v (P (L U) I) 100705)))]))))
 (.ite (eq (v I 100128) (c 3))
 (.guard (le (c 0) (v I 2))
 (.guard (lt (v I 2) (ln (v (L V3) 1)))
 (.guard (le (c 0) (v I 2))
 (.guard (lt (v I 2) (ln (v (L V3) 1)))
 (.guard (le (c 0) (v I 2))
 (.guard (lt (v I 2) (ln (v (L V3) 1)))
 (.call f_spec_l40Rd_pick [a (pr (f (v (P (L U) I) 0)) (s (v (P (L U) I) 100129))),a (add (sub (f (s (ix (v (L V3) 1) (v I 2)))) (f (ix (v (L V3) 1) (v I 2)))) (c 1))] 101664
 (.call f_spec_l2Const [a (add (f (ix (v (L V3) 1) (v I 2))) (v I 101664))] 101792
 (.join
 (.jump 0 [a (f (v (P (L U) I) 0)),a (s (v (P (L U) I) 101665)),a (one (pr (v I 101792) (pr (v I 101793) (pr (v I 101794) (v I 101795)))))])
 (.ret [a (v (L T4) 2),a (pr (v (L U) 0) (v I 1))]))))))))))
 (.ite (eq (v I 100128) (c 4))
 (.call f_spec_l40Rd_pick [a (pr (f (v (P (L U) I) 0)) (s (v (P (L U) I) 100129))),a (ln (v (L V3) 1))] 100832
 (.call f_spec_l2VarOf [a (v I 100832)] 100896
 (.ret [a (one (pr (v I 100896) (pr (v I 100897) (pr (v I 100898) (v I 100899))))),a (pr (f (v (P (L U) I) 0)) (s (v (P (L U) I) 100833)))])))
 (.call f_spec_l1Terms [a (pr (f (v (P (L U) I) 0)) (s (v (P (L U) I) 100129))),a (ln (v (L V3) 1)),a (c 1),a (c 5)] 100832
 (.ret [a (v (L T4) 100832),a (pr (f (v (P (L U) I) 0)) (s (v (P (L U) I) 100833)))])))))
def tr_spec_l2Rules:Tr:=.loop [a (v (L V3) 1),a (v I 2),a (c 0),a (f (v (P (L U) I) 0)),a (s (v (P (L U) I) 0)),a (nl TR)]
 (.ite (lt (v I 2) (v I 1))
 (.call f_spec_l2When [a (pr (v (L U) 3) (v I 4)),a (v (L V3) 0)] 328
 (.loop [a (v (L V3) 0),a (v I 1),a (v I 2),a (c 0),a (v (L U) 3),a (s (v (P (L U) I) 329)),a (v (L TR) 5),a (v (L T4) 328),a (nl I),a (nl (L T4))]
 (.ite (lt (v I 3) (ln (v (L V3) 0)))
 (.join
 (.call f_spec_l40Rd_pick [a (pr (v (L U) 4) (v I 5)),a (add (ln (v (L V3) 0)) (c 1))] 528
 (.ite (lt (v I 528) (c 1))
 (.guard (le (ln (v (L I) 8)) (c 549755813888))
 (.guard (le (ln (one (v I 3))) (c 549755813888))
 (.call f_spec_l2Value [a (pr (v (L U) 4) (s (v (P (L U) I) 529))),a (v (L V3) 0),a (v I 3)] 2576
 (.guard (le (ln (v (L (L T4)) 9)) (c 549755813888))
 (.guard (le (ln (one (v (L T4) 2576))) (c 549755813888))
 (.join
 (.jump 0 [a (v (L V3) 0),a (v I 1),a (v I 2),a (v I 3),a (v (L U) 4),a (s (v (P (L U) I) 2577)),a (v (L TR) 6),a (v (L T4) 7),a (app (v (L I) 8) (one (v I 3))),a (app (v (L (L T4)) 9) (one (v (L T4) 2576)))])
 (.jump 0 [a (v (L V3) 0),a (v I 1),a (v I 2),a (v I 3),a (v (L U) 4),a (v I 5),a (v (L TR) 6),a (v (L T4) 7),a (v (L I) 8),a (v (L (L T4)) 9)])))))))
 (.ite (eq (v I 3) (sub (ln (v (L V3) 0)) (c 1)))
 (.ite (eq (ln (v (L I) 8)) (c 0))
 (.call f_spec_l40Rd_pick [a (pr (v (L U) 4) (s (v (P (L U) I) 529))),a (c 9)] 1552
 (.ite (gt (v I 1552) (c 0))
 (.guard (le (ln (v (L I) 8)) (c 549755813888))
 (.guard (le (ln (one (v I 3))) (c 549755813888))
 (.call f_spec_l2Value [a (pr (v (L U) 4) (s (v (P (L U) I) 1553))),a (v (L V3) 0),a (v I 3)] 2576
 (.guard (le (ln (v (L (L T4)) 9)) (c 549755813888))
 (.guard (le (ln (one (v (L T4) 2576))) (c 549755813888))
 (.join
 (.jump 0 [a (v (L V3) 0),a (v I 1),a (v I 2),a (v I 3),a (v (L U) 4),a (s (v (P (L U) I) 2577)),a (v (L TR) 6),a (v (L T4) 7),a (app (v (L I) 8) (one (v I 3))),a (app (v (L (L T4)) 9) (one (v (L T4) 2576)))])
 (.jump 0 [a (v (L V3) 0),a (v I 1),a (v I 2),a (v I 3),a (v (L U) 4),a (v I 5),a (v (L TR) 6),a (v (L T4) 7),a (v (L I) 8),a (v (L (L T4)) 9)])))))))
 (.jump 0 [a (v (L V3) 0),a (v I 1),a (v I 2),a (v I 3),a (v (L U) 4),a (s (v (P (L U) I) 1553)),a (v (L TR) 6),a (v (L T4) 7),a (v (L I) 8),a (v (L (L T4)) 9)])))
 (.jump 0 [a (v (L V3) 0),a (v I 1),a (v I 2),a (v I 3),a (v (L U) 4),a (s (v (P (L U) I) 529)),a (v (L TR) 6),a (v (L T4) 7),a (v (L I) 8),a (v (L (L T4)) 9)]))
 (.jump 0 [a (v (L V3) 0),a (v I 1),a (v I 2),a (v I 3),a (v (L U) 4),a (s (v (P (L U) I) 529)),a (v (L TR) 6),a (v (L T4) 7),a (v (L I) 8),a (v (L (L T4)) 9)]))))
 (.jump 0 [a (v (L V3) 0),a (v I 1),a (v I 2),a (add (v I 3) (c 1)),a (v (L U) 4),a (v I 5),a (v (L TR) 6),a (v (L T4) 7),a (v (L I) 8),a (v (L (L T4)) 9)]))
 (.guard (le (ln (v (L TR) 6)) (c 549755813888))
 (.guard (le (ln (one (pr (v (L T4) 7) (pr (v (L I) 8) (v (L (L T4)) 9))))) (c 549755813888))
 (.jump 1 [a (v (L V3) 0),a (v I 1),a (add (v I 2) (c 1)),a (v (L U) 4),a (v I 5),a (app (v (L TR) 6) (one (pr (v (L T4) 7) (pr (v (L I) 8) (v (L (L T4)) 9)))))]))))))
 (.ret [a (v (L TR) 5),a (pr (v (L U) 3) (v I 4))]))
def tr_spec_l2System:Tr:=.call f_spec_l40Rd_pick [a (pr (f (v (P (L U) I) 0)) (s (v (P (L U) I) 0))),a (c 3)] 100384
 (.loop [a (v I 1),a (c 1),a (add (c 1) (v I 100384)),a (f (v (P (L U) I) 0)),a (s (v (P (L U) I) 100385)),a (nl V3)]
 (.ite (gt (v I 2) (c 0))
 (.join
 (.call f_spec_l40Rd_num [a (pr (v (L U) 3) (v I 4)),a (app (one (c 2)) (app (one (c 3)) (app (one (c 2)) (app (one (c 4)) (one (c 5))))))] 266
 (.ite (le (mul (v I 1) (v I 266)) (v I 0))
 (.call f_spec_l40Rd_num [a (pr (v (L U) 3) (s (v (P (L U) I) 267))),a (app (one (c 0)) (app (one (c 0)) (app (one (c 0)) (app (one (c (-1))) (one (c 2))))))] 842
 (.call f_spec_l40Rd_pick [a (pr (v (L U) 3) (s (v (P (L U) I) 843))),a (v I 266)] 1610
 (.guard (le (ln (v (L V3) 5)) (c 549755813888))
 (.guard (le (ln (one (pr (v I 842) (pr (sub (add (v I 842) (v I 266)) (c 1)) (add (v I 842) (v I 1610)))))) (c 549755813888))
 (.join
 (.jump 0 [a (v I 0),a (v I 1),a (v I 2),a (v I 266),a (v (L U) 3),a (s (v (P (L U) I) 1611)),a (app (v (L V3) 5) (one (pr (v I 842) (pr (sub (add (v I 842) (v I 266)) (c 1)) (add (v I 842) (v I 1610))))))])
 (.jump 0 [a (v I 0),a (mul (v I 1) (v I 3)),a (v I 2),a (v (L U) 4),a (v I 5),a (v (L V3) 6)]))))))
 (.jump 0 [a (v I 0),a (v I 1),a (v I 2),a (v (L U) 3),a (s (v (P (L U) I) 267)),a (v (L V3) 5)])))
 (.jump 0 [a (v I 0),a (v I 1),a (sub (v I 2) (c 1)),a (v (L U) 3),a (v I 4),a (v (L V3) 5)]))
 (.join
 (.ite (eq (ln (v (L V3) 5)) (c 0))
 (.guard (le (ln (v (L V3) 5)) (c 549755813888))
 (.guard (le (ln (one (pr (c 0) (pr (c 1) (c 0))))) (c 549755813888))
 (.jump 0 [a (v (L U) 3),a (v I 4),a (app (v (L V3) 5) (one (pr (c 0) (pr (c 1) (c 0)))))])))
 (.jump 0 [a (v (L U) 3),a (v I 4),a (v (L V3) 5)]))
 (.call f_spec_l40Rd_num [a (pr (v (L U) 0) (v I 1)),a (app (one (c 1)) (app (one (c 2)) (app (one (c 3)) (app (one (c 4)) (app (one (c 2)) (app (one (c 3)) (one (c 0))))))))] 327
 (.call f_spec_l2Rules [a (pr (v (L U) 0) (s (v (P (L U) I) 328))),a (v (L V3) 2),a (v I 327)] 391
 (.join
 (.jump 0 [a (v (L U) 0),a (s (v (P (L U) I) 392)),a (v (L V3) 2),a (v (L TR) 391)])
 (.ret [a (v (L V3) 2),a (v (L TR) 3),a (pr (v (L U) 0) (v I 1))])))))))
def tr_spec_l2Any:Tr:=.call f_spec_l2System [a (pr (f (v (P (L U) I) 0)) (s (v (P (L U) I) 0))),a (v I 1)] 100192
 (.join
 (.call f_spec_l40Rd_pick [a (pr (f (v (P (L U) I) 0)) (s (v (P (L U) I) 100194))),a (c 14)] 100448
 (.ite (eq (v I 100448) (c 0))
 (.call f_spec_l40Rd_pick [a (pr (f (v (P (L U) I) 0)) (s (v (P (L U) I) 100449))),a (c 6)] 100640
 (.ite (eq (v I 100640) (c 0))
 (.guard (lt (c 0) (ln (v (L V3) 100192)))
 (.guard (lt (c 0) (ln (v (L V3) 100192)))
 (.jump 0 [a (f (v (P (L U) I) 0)),a (s (v (P (L U) I) 100641)),a (st (v (L V3) 100192) (c 0) (pr (f (ix (v (L V3) 100192) (c 0))) (pr (f (s (ix (v (L V3) 100192) (c 0)))) (add (f (s (ix (v (L V3) 100192) (c 0)))) (c 1))))),a (v (L TR) 100193)])))
 (.ite (eq (v I 100640) (c 1))
 (.guard (lt (c 0) (ln (v (L V3) 100192)))
 (.call f_spec_l40Rd_num [a (pr (f (v (P (L U) I) 0)) (s (v (P (L U) I) 100641))),a (app (one (c (-1))) (app (one (c 20)) (one (c 19))))] 101600
 (.guard (lt (c 0) (ln (v (L V3) 100192)))
 (.join
 (.jump 0 [a (f (v (P (L U) I) 0)),a (s (v (P (L U) I) 101601)),a (st (v (L V3) 100192) (c 0) (pr (f (ix (v (L V3) 100192) (c 0))) (pr (add (f (ix (v (L V3) 100192) (c 0))) (v I 101600)) (s (s (ix (v (L V3) 100192) (c 0))))))),a (v (L TR) 100193)])
 (.jump 0 [a (v (L U) 0),a (v I 1),a (v (L V3) 2),a (v (L TR) 3)])))))
 (.ite (eq (v I 100640) (c 2))
 (.ite (gt (ln (v (L TR) 100193)) (c 0))
 (.call f_spec_l2Const [a (c 1)] 101664
 (.guard (lt (c 0) (ln (v (L TR) 100193)))
 (.jump 0 [a (f (v (P (L U) I) 0)),a (s (v (P (L U) I) 100641)),a (v (L V3) 100192),a (st (v (L TR) 100193) (c 0) (pr (one (pr (v I 101664) (pr (v I 101665) (pr (v I 101666) (v I 101667))))) (s (ix (v (L TR) 100193) (c 0)))))])))
 (.ite (eq (v I 100640) (c 3))
 (.ite (gt (ln (v (L TR) 100193)) (c 0))
 (.guard (lt (c 0) (ln (v (L TR) 100193)))
 (.guard (le (ln (f (s (ix (v (L TR) 100193) (c 0))))) (c 549755813888))
 (.guard (le (ln (one (ln (v (L V3) 100192)))) (c 549755813888))
 (.guard (lt (c 0) (ln (v (L TR) 100193)))
 (.join
 (.jump 0 [a (f (v (P (L U) I) 0)),a (s (v (P (L U) I) 100641)),a (v (L V3) 100192),a (st (v (L TR) 100193) (c 0) (pr (f (ix (v (L TR) 100193) (c 0))) (pr (app (f (s (ix (v (L TR) 100193) (c 0)))) (one (ln (v (L V3) 100192)))) (s (s (ix (v (L TR) 100193) (c 0)))))))])
 (.jump 0 [a (v (L U) 0),a (v I 1),a (v (L V3) 2),a (v (L TR) 3)]))))))
 (.ite (eq (v I 100640) (c 4))
 (.jump 0 [a (f (v (P (L U) I) 0)),a (s (v (P (L U) I) 100641)),a (nl V3),a (v (L TR) 100193)])
 (.ite (gt (ln (v (L TR) 100193)) (c 0))
 (.guard (lt (c 0) (ln (v (L TR) 100193)))
 (.call f_spec_l2Const [a (c 0)] 102880
 (.guard (le (ln (s (s (ix (v (L TR) 100193) (c 0))))) (c 549755813888))
 (.guard (le (ln (one (one (pr (v I 102880) (pr (v I 102881) (pr (v I 102882) (v I 102883))))))) (c 549755813888))
 (.guard (lt (c 0) (ln (v (L TR) 100193)))
 (.join
 (.jump 0 [a (f (v (P (L U) I) 0)),a (s (v (P (L U) I) 100641)),a (v (L V3) 100192),a (st (v (L TR) 100193) (c 0) (pr (f (ix (v (L TR) 100193) (c 0))) (pr (f (s (ix (v (L TR) 100193) (c 0)))) (app (s (s (ix (v (L TR) 100193) (c 0)))) (one (one (pr (v I 102880) (pr (v I 102881) (pr (v I 102882) (v I 102883))))))))))])
 (.jump 0 [a (v (L U) 0),a (v I 1),a (v (L V3) 2),a (v (L TR) 3)])))))))
 (.jump 0 [a (f (v (P (L U) I) 0)),a (s (v (P (L U) I) 100641)),a (v (L V3) 100192),a (v (L TR) 100193)]))))
 (.ite (eq (v I 100640) (c 4))
 (.jump 0 [a (f (v (P (L U) I) 0)),a (s (v (P (L U) I) 100641)),a (nl V3),a (v (L TR) 100193)])
 (.ite (gt (ln (v (L TR) 100193)) (c 0))
 (.guard (lt (c 0) (ln (v (L TR) 100193)))
 (.call f_spec_l2Const [a (c 0)] 102880
 (.guard (le (ln (s (s (ix (v (L TR) 100193) (c 0))))) (c 549755813888))
 (.guard (le (ln (one (one (pr (v I 102880) (pr (v I 102881) (pr (v I 102882) (v I 102883))))))) (c 549755813888))
 (.guard (lt (c 0) (ln (v (L TR) 100193)))
 (.join
 (.jump 0 [a (f (v (P (L U) I) 0)),a (s (v (P (L U) I) 100641)),a (v (L V3) 100192),a (st (v (L TR) 100193) (c 0) (pr (f (ix (v (L TR) 100193) (c 0))) (pr (f (s (ix (v (L TR) 100193) (c 0)))) (app (s (s (ix (v (L TR) 100193) (c 0)))) (one (one (pr (v I 102880) (pr (v I 102881) (pr (v I 102882) (v I 102883))))))))))])
 (.jump 0 [a (v (L U) 0),a (v I 1),a (v (L V3) 2),a (v (L TR) 3)])))))))
 (.jump 0 [a (f (v (P (L U) I) 0)),a (s (v (P (L U) I) 100641)),a (v (L V3) 100192),a (v (L TR) 100193)])))))
 (.ite (eq (v I 100640) (c 3))
 (.ite (gt (ln (v (L TR) 100193)) (c 0))
 (.guard (lt (c 0) (ln (v (L TR) 100193)))
 (.guard (le (ln (f (s (ix (v (L TR) 100193) (c 0))))) (c 549755813888))
 (.guard (le (ln (one (ln (v (L V3) 100192)))) (c 549755813888))
 (.guard (lt (c 0) (ln (v (L TR) 100193)))
 (.join
 (.jump 0 [a (f (v (P (L U) I) 0)),a (s (v (P (L U) I) 100641)),a (v (L V3) 100192),a (st (v (L TR) 100193) (c 0) (pr (f (ix (v (L TR) 100193) (c 0))) (pr (app (f (s (ix (v (L TR) 100193) (c 0)))) (one (ln (v (L V3) 100192)))) (s (s (ix (v (L TR) 100193) (c 0)))))))])
 (.jump 0 [a (v (L U) 0),a (v I 1),a (v (L V3) 2),a (v (L TR) 3)]))))))
 (.ite (eq (v I 100640) (c 4))
 (.jump 0 [a (f (v (P (L U) I) 0)),a (s (v (P (L U) I) 100641)),a (nl V3),a (v (L TR) 100193)])
 (.ite (gt (ln (v (L TR) 100193)) (c 0))
 (.guard (lt (c 0) (ln (v (L TR) 100193)))
 (.call f_spec_l2Const [a (c 0)] 102880
 (.guard (le (ln (s (s (ix (v (L TR) 100193) (c 0))))) (c 549755813888))
 (.guard (le (ln (one (one (pr (v I 102880) (pr (v I 102881) (pr (v I 102882) (v I 102883))))))) (c 549755813888))
 (.guard (lt (c 0) (ln (v (L TR) 100193)))
 (.join
 (.jump 0 [a (f (v (P (L U) I) 0)),a (s (v (P (L U) I) 100641)),a (v (L V3) 100192),a (st (v (L TR) 100193) (c 0) (pr (f (ix (v (L TR) 100193) (c 0))) (pr (f (s (ix (v (L TR) 100193) (c 0)))) (app (s (s (ix (v (L TR) 100193) (c 0)))) (one (one (pr (v I 102880) (pr (v I 102881) (pr (v I 102882) (v I 102883))))))))))])
 (.jump 0 [a (v (L U) 0),a (v I 1),a (v (L V3) 2),a (v (L TR) 3)])))))))
 (.jump 0 [a (f (v (P (L U) I) 0)),a (s (v (P (L U) I) 100641)),a (v (L V3) 100192),a (v (L TR) 100193)]))))
 (.ite (eq (v I 100640) (c 4))
 (.jump 0 [a (f (v (P (L U) I) 0)),a (s (v (P (L U) I) 100641)),a (nl V3),a (v (L TR) 100193)])
 (.ite (gt (ln (v (L TR) 100193)) (c 0))
 (.guard (lt (c 0) (ln (v (L TR) 100193)))
 (.call f_spec_l2Const [a (c 0)] 102880
 (.guard (le (ln (s (s (ix (v (L TR) 100193) (c 0))))) (c 549755813888))
 (.guard (le (ln (one (one (pr (v I 102880) (pr (v I 102881) (pr (v I 102882) (v I 102883))))))) (c 549755813888))
 (.guard (lt (c 0) (ln (v (L TR) 100193)))
 (.join
 (.jump 0 [a (f (v (P (L U) I) 0)),a (s (v (P (L U) I) 100641)),a (v (L V3) 100192),a (st (v (L TR) 100193) (c 0) (pr (f (ix (v (L TR) 100193) (c 0))) (pr (f (s (ix (v (L TR) 100193) (c 0)))) (app (s (s (ix (v (L TR) 100193) (c 0)))) (one (one (pr (v I 102880) (pr (v I 102881) (pr (v I 102882) (v I 102883))))))))))])
 (.jump 0 [a (v (L U) 0),a (v I 1),a (v (L V3) 2),a (v (L TR) 3)])))))))
 (.jump 0 [a (f (v (P (L U) I) 0)),a (s (v (P (L U) I) 100641)),a (v (L V3) 100192),a (v (L TR) 100193)]))))))))
 (.jump 0 [a (f (v (P (L U) I) 0)),a (s (v (P (L U) I) 100449)),a (v (L V3) 100192),a (v (L TR) 100193)])))
 (.ret [a (v (L V3) 2),a (v (L TR) 3),a (pr (v (L U) 0) (v I 1))]))
def tr_spec_l2Var:Tr:=.call f_spec_l1In [a (v I 0),a (c (-9999)),a (c 9999)] 100256
 (.ite (v B 100256)
 (.call f_spec_l1In [a (v I 1),a (v I 0),a (c 9999)] 100640
 (.ite (v B 100640)
 (.ite (lt (sub (v I 1) (v I 0)) (c 20))
 (.call f_spec_l1In [a (v I 2),a (v I 0),a (v I 1)] 101728
 (.ret [a (v B 101728)]))
 (.ret [a (k false)]))
 (.ret [a (k false)])))
 (.ret [a (k false)]))
def tr_spec_l1Any:Tr:=.call f_spec_l40Rd_pick [a (pr (f (v (P (L U) I) 0)) (s (v (P (L U) I) 0))),a (c 3)] 100256
 (.call f_spec_l1Terms [a (pr (f (v (P (L U) I) 0)) (s (v (P (L U) I) 100257))),a (v I 1),a (v I 100256),a (c 12)] 100320
 (.join
 (.call f_spec_l40Rd_pick [a (pr (f (v (P (L U) I) 0)) (s (v (P (L U) I) 100321))),a (c 12)] 100512
 (.ite (eq (v I 100512) (c 0))
 (.call f_spec_l40Rd_pick [a (pr (f (v (P (L U) I) 0)) (s (v (P (L U) I) 100513))),a (ln (v (L T4) 100320))] 100832
 (.guard (le (c 0) (v I 100832))
 (.guard (lt (v I 100832) (ln (v (L T4) 100320)))
 (.call f_spec_l40Rd_pick [a (pr (f (v (P (L U) I) 0)) (s (v (P (L U) I) 100833))),a (c 4)] 101408
 (.join
 (.ite (eq (v I 101408) (c 0))
 (.call f_spec_l40Rd_num [a (pr (f (v (P (L U) I) 0)) (s (v (P (L U) I) 101409))),a (app (one (c (-1))) (app (one (c 10)) (app (one (c 7)) (app (one (c 2)) (app (one (c 0)) (one (c 1)))))))] 101792
 (.jump 0 [a (v I 100832),a (f (v (P (L U) I) 0)),a (s (v (P (L U) I) 101793)),a (v (L T4) 100320),a (v I 101792),a (f (s (ix (v (L T4) 100320) (v I 100832)))),a (f (s (s (ix (v (L T4) 100320) (v I 100832))))),a (s (s (s (ix (v (L T4) 100320) (v I 100832)))))]))
 (.ite (eq (v I 101408) (c 1))
 (.call f_spec_l40Rd_num [a (pr (f (v (P (L U) I) 0)) (s (v (P (L U) I) 101409))),a (app (one (c (-1))) (app (one (v I 1)) (app (one (c 10000)) (one (c 1)))))] 101984
 (.jump 0 [a (v I 100832),a (f (v (P (L U) I) 0)),a (s (v (P (L U) I) 101985)),a (v (L T4) 100320),a (f (ix (v (L T4) 100320) (v I 100832))),a (v I 101984),a (f (s (s (ix (v (L T4) 100320) (v I 100832))))),a (s (s (s (ix (v (L T4) 100320) (v I 100832)))))]))
 (.ite (eq (v I 101408) (c 2))
 (.call f_spec_l40Rd_num [a (pr (f (v (P (L U) I) 0)) (s (v (P (L U) I) 101409))),a (app (one (c (-1))) (app (one (v I 100832)) (app (one (ln (v (L T4) 100320))) (one (c 0)))))] 102240
 (.jump 0 [a (v I 100832),a (f (v (P (L U) I) 0)),a (s (v (P (L U) I) 102241)),a (v (L T4) 100320),a (f (ix (v (L T4) 100320) (v I 100832))),a (f (s (ix (v (L T4) 100320) (v I 100832)))),a (v I 102240),a (s (s (s (ix (v (L T4) 100320) (v I 100832)))))]))
 (.call f_spec_l40Rd_num [a (pr (f (v (P (L U) I) 0)) (s (v (P (L U) I) 101409))),a (app (one (c (-1))) (app (one (v I 100832)) (app (one (ln (v (L T4) 100320))) (one (c 0)))))] 102240
 (.jump 0 [a (v I 100832),a (f (v (P (L U) I) 0)),a (s (v (P (L U) I) 102241)),a (v (L T4) 100320),a (f (ix (v (L T4) 100320) (v I 100832))),a (f (s (ix (v (L T4) 100320) (v I 100832)))),a (f (s (s (ix (v (L T4) 100320) (v I 100832))))),a (v I 102240)])))))
 (.guard (le (c 0) (v I 0))
 (.guard (lt (v I 0) (ln (v (L T4) 3)))
 (.jump 0 [a (v (L U) 1),a (v I 2),a (st (v (L T4) 3) (v I 0) (pr (v I 4) (pr (v I 5) (pr (v I 6) (v I 7)))))]))))))))
 (.jump 0 [a (f (v (P (L U) I) 0)),a (s (v (P (L U) I) 100513)),a (v (L T4) 100320)])))
 (.ret [a (v (L T4) 2),a (pr (v (L U) 0) (v I 1))])))
def tr_impl_in:Tr:=.ite (ge (v I 0) (v I 1))
 (.ret [a (le (v I 0) (v I 2))])
 (.ret [a (k false)])
def tr_impl_varOk:Tr:=.call f_impl_in [a (v I 0),a (c (-9999)),a (c 9999)] 100256
 (.ite (v B 100256)
 (.call f_impl_in [a (v I 1),a (v I 0),a (c 9999)] 100640
 (.ite (v B 100640)
 (.ite (lt (sub (v I 1) (v I 0)) (c 20))
 (.call f_impl_in [a (v I 2),a (v I 0),a (v I 1)] 101728
 (.ret [a (v B 101728)]))
 (.ret [a (k false)]))
 (.ret [a (k false)])))
 (.ret [a (k false)]))
def tr_impl_size:Tr:=.loop [a (c 1),a (v (L V3) 0),a (ln (v (L V3) 0)),a (c 0)]
 (.ite (lt (v I 3) (v I 2))
 (.guard (le (c 0) (v I 3))
 (.guard (lt (v I 3) (ln (v (L V3) 1)))
 (.jump 0 [a (mul (v I 0) (add (sub (f (s (ix (v (L V3) 1) (v I 3)))) (f (ix (v (L V3) 1) (v I 3)))) (c 1))),a (v (L V3) 1),a (v I 2),a (add (v I 3) (c 1))])))
 (.ret [a (v I 0)]))
def tr_impl_parts:Tr:=.ite (eq (v I 0) (c 2))
 (.ret [a (c 2),a (c 1),a (c 1)])
 (.ite (eq (v I 0) (c 3))
 (.ret [a (c 2),a (c 1),a (c 1)])
 (.ite (eq (v I 0) (c 4))
 (.ret [a (c 2),a (c 1),a (c 1)])
 (.ite (eq (v I 0) (c 5))
 (.ret [a (c 2),a (c 1),a (c 2)])
 (.ite (eq (v I 0) (c 6))
 (.ret [a (c 2),a (c 1),a (c 2)])
 (.ite (eq (v I 0) (c 7))
 (.ret [a (c 1),a (c 2),a (c 2)])
 (.ite (eq (v I 0) (c 8))
 (.ret [a (c 2),a (c 2),a (c 2)])
 (.ite (eq (v I 0) (c 9))
 (.ret [a (c 2),a (c 2),a (c 2)])
 (.ret [a (c 0),a (c 0),a (c 1)]))))))))
def tr_impl_kindsOf:Tr:=.call f_impl_in [a (v I 1),a (c 0),a (c 5)] 100128
 (.ite (nt (v B 100128))
 (.ret [a (.nil true I)])
 (.call f_impl_in [a (ln (v (L T4) 0)),a (c 1),a (c 40)] 100448
 (.ite (nt (v B 100448))
 (.ret [a (.nil true I)])
 (.guard (le (c 0) (ln (v (L T4) 0)))
 (.guard (le (ln (v (L T4) 0)) (c 549755813888))
 (.loop [a (v I 1),a (v (L T4) 0),a (ln (v (L T4) 0)),a (c 0),a (rep (c 0) (z I))]
 (.ite (lt (v I 3) (v I 2))
 (.guard (le (c 0) (v I 3))
 (.guard (lt (v I 3) (ln (v (L T4) 1)))
 (.call f_impl_parts [a (f (ix (v (L T4) 1) (v I 3)))] 582
 (.call f_impl_in [a (f (ix (v (L T4) 1) (v I 3))),a (c 0),a (c 9)] 1222
 (.join
 (.ite (eq (f (ix (v (L T4) 1) (v I 3))) (c 0))
 (.call f_impl_in [a (f (s (ix (v (L T4) 1) (v I 3)))),a (c (-9999)),a (c 9999)] 1734
 (.ite (v B 1734)
 (.ite (eq (f (s (s (ix (v (L T4) 1) (v I 3))))) (c 0))
 (.jump 0 [a (v I 0),a (v I 584),a (eq (s (s (s (ix (v (L T4) 1) (v I 3))))) (c 0)),a (v (L T4) 1),a (v I 2),a (v I 3),a (v (L I) 4)])
 (.jump 0 [a (v I 0),a (v I 584),a (k false),a (v (L T4) 1),a (v I 2),a (v I 3),a (v (L I) 4)]))
 (.jump 0 [a (v I 0),a (v I 584),a (k false),a (v (L T4) 1),a (v I 2),a (v I 3),a (v (L I) 4)])))
 (.ite (eq (f (ix (v (L T4) 1) (v I 3))) (c 1))
 (.call f_impl_in [a (f (s (ix (v (L T4) 1) (v I 3)))),a (c 0),a (sub (v I 0) (c 1))] 2118
 (.ite (v B 2118)
 (.ite (eq (f (s (s (ix (v (L T4) 1) (v I 3))))) (c 0))
 (.jump 0 [a (v I 0),a (v I 584),a (eq (s (s (s (ix (v (L T4) 1) (v I 3))))) (c 0)),a (v (L T4) 1),a (v I 2),a (v I 3),a (v (L I) 4)])
 (.jump 0 [a (v I 0),a (v I 584),a (k false),a (v (L T4) 1),a (v I 2),a (v I 3),a (v (L I) 4)]))
 (.jump 0 [a (v I 0),a (v I 584),a (k false),a (v (L T4) 1),a (v I 2),a (v I 3),a (v (L I) 4)])))
 (.ite (v B 1222)
 (.ite (eq (f (s (ix (v (L T4) 1) (v I 3)))) (c 0))
 (.call f_impl_in [a (f (s (s (ix (v (L T4) 1) (v I 3))))),a (c 0),a (sub (v I 3) (c 1))] 2502
 (.ite (v B 2502)
 (.call f_impl_in [a (s (s (s (ix (v (L T4) 1) (v I 3))))),a (c 0),a (sub (v I 3) (c 1))] 2950
 (.ite (v B 2950)
 (.guard (le (c 0) (f (s (s (ix (v (L T4) 1) (v I 3))))))
 (.guard (lt (f (s (s (ix (v (L T4) 1) (v I 3))))) (ln (v (L I) 4)))
 (.ite (eq (ix (v (L I) 4) (f (s (s (ix (v (L T4) 1) (v I 3)))))) (v I 583))
 (.guard (le (c 0) (s (s (s (ix (v (L T4) 1) (v I 3))))))
 (.guard (lt (s (s (s (ix (v (L T4) 1) (v I 3))))) (ln (v (L I) 4)))
 (.ite (eq (ix (v (L I) 4) (s (s (s (ix (v (L T4) 1) (v I 3)))))) (v I 583))
 (.ite (eq (v I 582) (c 2))
 (.jump 0 [a (v I 0),a (v I 584),a (k true),a (v (L T4) 1),a (v I 2),a (v I 3),a (v (L I) 4)])
 (.jump 0 [a (v I 0),a (v I 584),a (eq (f (s (s (ix (v (L T4) 1) (v I 3))))) (s (s (s (ix (v (L T4) 1) (v I 3)))))),a (v (L T4) 1),a (v I 2),a (v I 3),a (v (L I) 4)]))
 (.jump 0 [a (v I 0),a (v I 584),a (k false),a (v (L T4) 1),a (v I 2),a (v I 3),a (v (L I) 4)]))))
 (.jump 0 [a (v I 0),a (v I 584),a (k false),a (v (L T4) 1),a (v I 2),a (v I 3),a (v (L I) 4)]))))
 (.jump 0 [a (v I 0),a (v I 584),a (k false),a (v (L T4) 1),a (v I 2),a (v I 3),a (v (L I) 4)])))
 (.jump 0 [a (v I 0),a (v I 584),a (k false),a (v (L T4) 1),a (v I 2),a (v I 3),a (v (L I) 4)])))
 (.jump 0 [a (v I 0),a (v I 584),a (k false),a (v (L T4) 1),a (v I 2),a (v I 3),a (v (L I) 4)]))
 (.jump 0 [a (v I 0),a (v I 584),a (k false),a (v (L T4) 1),a (v I 2),a (v I 3),a (v (L I) 4)]))))
 (.ite (nt (v B 2))
 (.ret [a (.nil true I)])
 (.guard (le (ln (v (L I) 6)) (c 549755813888))
 (.guard (le (ln (one (v I 1))) (c 549755813888))
 (.jump 0 [a (v I 0),a (v (L T4) 3),a (v I 4),a (add (v I 5) (c 1)),a (app (v (L I) 6) (one (v I 1)))])))))))))
 (.guard (nt (emp (v (L I) 4)))
 (.ret [a (re true (v (L I) 4))])))))))))
def tr_impl_kindOf:Tr:=.call f_impl_kindsOf [a (v (L T4) 0),a (v I 1)] 100192
 (.ite (emp (v (N I) 100192))
 (.ret [a (c 0)])
 (.guard (le (c 0) (sub (lm (v (N I) 100192)) (c 1)))
 (.guard (lt (sub (lm (v (N I) 100192)) (c 1)) (lm (v (N I) 100192)))
 (.ret [a (im (v (N I) 100192) (sub (lm (v (N I) 100192)) (c 1)))]))))
def tr_impl_ruleOk:Tr:=.call f_impl_kindOf [a (v (L T4) 0),a (v I 3)] 100320
 (.ite (ne (v I 100320) (c 2))
 (.ret [a (k false)])
 (.ite (ne (ln (v (L I) 1)) (ln (v (L (L T4)) 2)))
 (.ret [a (k false)])
 (.loop [a (v I 3),a (v (L I) 1),a (ln (v (L I) 1)),a (c 0),a (v (L T4) 0),a (v (L I) 1),a (v (L (L T4)) 2)]
 (.ite (lt (v I 3) (v I 2))
 (.join
 (.guard (le (c 0) (v I 3))
 (.guard (lt (v I 3) (ln (v (L I) 1)))
 (.call f_impl_in [a (ix (v (L I) 1) (v I 3)),a (c 0),a (sub (v I 0) (c 1))] 584
 (.ite (nt (v B 584))
 (.ret [a (k false)])
 (.ite (gt (v I 3) (c 0))
 (.guard (le (c 0) (sub (v I 3) (c 1)))
 (.guard (lt (sub (v I 3) (c 1)) (ln (v (L I) 5)))
 (.ite (ge (ix (v (L I) 5) (sub (v I 3) (c 1))) (ix (v (L I) 1) (v I 3)))
 (.ret [a (k false)])
 (.guard (le (c 0) (v I 3))
 (.guard (lt (v I 3) (ln (v (L (L T4)) 6)))
 (.call f_impl_kindOf [a (ix (v (L (L T4)) 6) (v I 3)),a (v I 0)] 2056
 (.ite (ne (v I 2056) (c 1))
 (.ret [a (k false)])
 (.jump 0 [a (v I 0),a (v (L I) 1),a (v I 2),a (v I 3),a (v (L T4) 4),a (v (L I) 5),a (v (L (L T4)) 6)]))))))))
 (.guard (le (c 0) (v I 3))
 (.guard (lt (v I 3) (ln (v (L (L T4)) 6)))
 (.call f_impl_kindOf [a (ix (v (L (L T4)) 6) (v I 3)),a (v I 0)] 2056
 (.ite (ne (v I 2056) (c 1))
 (.ret [a (k false)])
 (.jump 0 [a (v I 0),a (v (L I) 1),a (v I 2),a (v I 3),a (v (L T4) 4),a (v (L I) 5),a (v (L (L T4)) 6)]))))))))))
 (.jump 0 [a (v I 0),a (v (L I) 1),a (v I 2),a (add (v I 3) (c 1)),a (v (L T4) 4),a (v (L I) 5),a (v (L (L T4)) 6)]))
 (.ret [a (k true)])))))
end Go.Proofs.YtdgpohclhppodaaGreat
namespace Go.Proofs.YtdgpohclhppodaaGreat
open Go Go.Sm Go.Sm.Q
def tr_impl_SystemValid:Tr:=.join
 (.call f_impl_in [a (ln (v (L V3) 0)),a (c 1),a (c 5)] 100320
 (.ite (nt (v B 100320))
 (.ret [a (k false)])
 (.ite (gt (ln (v (L TR) 1)) (c 8))
 (.ret [a (k false)])
 (.loop [a (v (L V3) 0),a (ln (v (L V3) 0)),a (c 0),a (v (L V3) 0),a (v (L TR) 1)]
 (.ite (lt (v I 2) (v I 1))
 (.guard (le (c 0) (v I 2))
 (.guard (lt (v I 2) (ln (v (L V3) 0)))
 (.call f_impl_varOk [a (f (ix (v (L V3) 0) (v I 2))),a (f (s (ix (v (L V3) 0) (v I 2)))),a (s (s (ix (v (L V3) 0) (v I 2))))] 774
 (.ite (nt (v B 774))
 (.ite (ge (v I 2) (c 0))
 (.ret [a (k false)])
 (.call f_impl_size [a (v (L V3) 3)] 3014
 (.ite (gt (v I 3014) (c 400))
 (.ret [a (k false)])
 (.jump 1 [a (v (L V3) 3),a (v (L TR) 4)]))))
 (.jump 0 [a (v (L V3) 0),a (v I 1),a (add (v I 2) (c 1)),a (v (L V3) 3),a (v (L TR) 4)])))))
 (.call f_impl_size [a (v (L V3) 3)] 1670
 (.ite (gt (v I 1670) (c 400))
 (.ret [a (k false)])
 (.jump 1 [a (v (L V3) 3),a (v (L TR) 4)]))))))))
 (.loop [a (v (L TR) 1),a (ln (v (L TR) 1)),a (c 0),a (v (L V3) 0),a (v (L TR) 1)]
 (.ite (lt (v I 2) (v I 1))
 (.guard (le (c 0) (v I 2))
 (.guard (lt (v I 2) (ln (v (L TR) 0)))
 (.call f_impl_ruleOk [a (f (ix (v (L TR) 0) (v I 2))),a (f (s (ix (v (L TR) 0) (v I 2)))),a (s (s (ix (v (L TR) 0) (v I 2)))),a (ln (v (L V3) 3))] 966
 (.ite (nt (v B 966))
 (.ret [a (nt (ge (v I 2) (c 0)))])
 (.jump 0 [a (v (L TR) 0),a (v I 1),a (add (v I 2) (c 1)),a (v (L V3) 3),a (v (L TR) 4)])))))
 (.ret [a (nt (ge (c (-1)) (c 0)))])))
def tr_impl_held:Tr:=.ret [a (.o2 (.mx .i64) (c (-9999)) (.o2 (.mn .i64) (c 9999) (v I 0)))]
def tr_impl_bit:Tr:=.ite (v B 0)
 (.ret [a (c 1)])
 (.ret [a (c 0)])
def tr_impl_do:Tr:=.ite (eq (v I 0) (c 2))
 (.call f_impl_held [a (add (v I 1) (v I 2))] 100448
 (.ret [a (v I 100448)]))
 (.ite (eq (v I 0) (c 3))
 (.call f_impl_held [a (sub (v I 1) (v I 2))] 100576
 (.ret [a (v I 100576)]))
 (.ite (eq (v I 0) (c 4))
 (.call f_impl_held [a (mul (v I 1) (v I 2))] 100704
 (.ret [a (v I 100704)]))
 (.ite (eq (v I 0) (c 5))
 (.call f_impl_bit [a (lt (v I 1) (v I 2))] 100832
 (.ret [a (v I 100832)]))
 (.ite (eq (v I 0) (c 6))
 (.call f_impl_bit [a (eq (v I 1) (v I 2))] 100960
 (.ret [a (v I 100960)]))
 (.ite (eq (v I 0) (c 7))
 (.ret [a (sub (c 1) (v I 1))])
 (.ite (eq (v I 0) (c 8))
 (.ret [a (.o2 (.mn .i64) (v I 1) (v I 2))])
 (.ret [a (.o2 (.mx .i64) (v I 1) (v I 2))])))))))
def tr_impl_eval:Tr:=.guard (le (c 0) (ln (v (L T4) 0)))
 (.guard (le (ln (v (L T4) 0)) (c 549755813888))
 (.loop [a (v (L I) 1),a (v (L T4) 0),a (ln (v (L T4) 0)),a (c 0),a (rep (ln (v (L T4) 0)) (z I))]
 (.ite (lt (v I 3) (v I 2))
 (.join
 (.guard (le (c 0) (v I 3))
 (.guard (lt (v I 3) (ln (v (L T4) 1)))
 (.ite (eq (f (ix (v (L T4) 1) (v I 3))) (c 0))
 (.guard (le (c 0) (v I 3))
 (.guard (lt (v I 3) (ln (v (L I) 4)))
 (.jump 0 [a (v (L I) 0),a (v (L T4) 1),a (v I 2),a (v I 3),a (st (v (L I) 4) (v I 3) (f (s (ix (v (L T4) 1) (v I 3)))))])))
 (.ite (eq (f (ix (v (L T4) 1) (v I 3))) (c 1))
 (.guard (le (c 0) (f (s (ix (v (L T4) 1) (v I 3)))))
 (.guard (lt (f (s (ix (v (L T4) 1) (v I 3)))) (ln (v (L I) 0)))
 (.guard (le (c 0) (v I 3))
 (.guard (lt (v I 3) (ln (v (L I) 4)))
 (.jump 0 [a (v (L I) 0),a (v (L T4) 1),a (v I 2),a (v I 3),a (st (v (L I) 4) (v I 3) (ix (v (L I) 0) (f (s (ix (v (L T4) 1) (v I 3))))))])))))
 (.guard (le (c 0) (f (s (s (ix (v (L T4) 1) (v I 3))))))
 (.guard (lt (f (s (s (ix (v (L T4) 1) (v I 3))))) (ln (v (L I) 4)))
 (.guard (le (c 0) (s (s (s (ix (v (L T4) 1) (v I 3))))))
 (.guard (lt (s (s (s (ix (v (L T4) 1) (v I 3))))) (ln (v (L I) 4)))
 (.call f_impl_do [a (f (ix (v (L T4) 1) (v I 3))),a (ix (v (L I) 4) (f (s (s (ix (v (L T4) 1) (v I 3)))))),a (ix (v (L I) 4) (s (s (s (ix (v (L T4) 1) (v I 3))))))] 1734
 (.guard (le (c 0) (v I 3))
 (.guard (lt (v I 3) (ln (v (L I) 4)))
 (.jump 0 [a (v (L I) 0),a (v (L T4) 1),a (v I 2),a (v I 3),a (st (v (L I) 4) (v I 3) (v I 1734))]))))))))))))
 (.jump 0 [a (v (L I) 0),a (v (L T4) 1),a (v I 2),a (add (v I 3) (c 1)),a (v (L I) 4)]))
 (.guard (le (c 0) (sub (ln (v (L I) 4)) (c 1)))
 (.guard (lt (sub (ln (v (L I) 4)) (c 1)) (ln (v (L I) 4)))
 (.ret [a (ix (v (L I) 4) (sub (ln (v (L I) 4)) (c 1)))]))))))
def tr_impl_clone_int:Tr:=.ite (eq (ln (v (L I) 0)) (c 0))
 (.ret [a (nl I)])
 (.guard (le (c 0) (ln (v (L I) 0)))
 (.guard (le (ln (v (L I) 0)) (c 549755813888))
 (.ret [a (over (rep (ln (v (L I) 0)) (z I)) (v (L I) 0))])))
def tr_impl_first:Tr:=.loop [a (v (L V3) 0),a (ln (v (L V3) 0)),a (c 0),a (nl I)]
 (.ite (lt (v I 2) (v I 1))
 (.guard (le (c 0) (v I 2))
 (.guard (lt (v I 2) (ln (v (L V3) 0)))
 (.guard (le (ln (v (L I) 3)) (c 549755813888))
 (.guard (le (ln (one (s (s (ix (v (L V3) 0) (v I 2)))))) (c 549755813888))
 (.jump 0 [a (v (L V3) 0),a (v I 1),a (add (v I 2) (c 1)),a (app (v (L I) 3) (one (s (s (ix (v (L V3) 0) (v I 2))))))])))))
 (.call f_impl_clone_int [a (v (L I) 3)] 133
 (.ret [a (v (L I) 133)])))
def tr_impl_inRange:Tr:=.ite (ne (ln (v (L I) 2)) (ln (v (L V3) 0)))
 (.ret [a (k false)])
 (.loop [a (v (L I) 2),a (v (L V3) 0),a (ln (v (L V3) 0)),a (c 0)]
 (.ite (lt (v I 3) (v I 2))
 (.guard (le (c 0) (v I 3))
 (.guard (lt (v I 3) (ln (v (L V3) 1)))
 (.guard (le (c 0) (v I 3))
 (.guard (lt (v I 3) (ln (v (L I) 0)))
 (.call f_impl_in [a (ix (v (L I) 0) (v I 3)),a (f (ix (v (L V3) 1) (v I 3))),a (f (s (ix (v (L V3) 1) (v I 3))))] 964
 (.ite (nt (v B 964))
 (.ret [a (k false)])
 (.jump 0 [a (v (L I) 0),a (v (L V3) 1),a (v I 2),a (add (v I 3) (c 1))])))))))
 (.ret [a (k true)])))
def tr_impl_use:Tr:=.guard (le (c 0) (v I 3))
 (.guard (lt (v I 3) (ln (v (L TR) 1)))
 (.call f_impl_eval [a (f (ix (v (L TR) 1) (v I 3))),a (v (L I) 2)] 100832
 (.ite (eq (v I 100832) (c 0))
 (.ret [a (nl I),a (k false)])
 (.call f_impl_clone_int [a (v (L I) 2)] 101024
 (.loop [a (v (L I) 2),a (f (s (ix (v (L TR) 1) (v I 3)))),a (ln (f (s (ix (v (L TR) 1) (v I 3))))),a (c 0),a (v (L V3) 0),a (v (L TR) 1),a (f (ix (v (L TR) 1) (v I 3))),a (f (s (ix (v (L TR) 1) (v I 3)))),a (s (s (ix (v (L TR) 1) (v I 3)))),a (v (L I) 101024)]
 (.ite (lt (v I 3) (v I 2))
 (.guard (le (c 0) (v I 3))
 (.guard (lt (v I 3) (ln (v (L I) 1)))
 (.guard (le (c 0) (v I 3))
 (.guard (lt (v I 3) (ln (v (L (L T4)) 8)))
 (.call f_impl_eval [a (ix (v (L (L T4)) 8) (v I 3)),a (v (L I) 0)] 909
 (.guard (le (c 0) (ix (v (L I) 1) (v I 3)))
 (.guard (lt (ix (v (L I) 1) (v I 3)) (ln (v (L I) 9)))
 (.jump 0 [a (v (L I) 0),a (v (L I) 1),a (v I 2),a (add (v I 3) (c 1)),a (v (L V3) 4),a (v (L TR) 5),a (v (L T4) 6),a (v (L I) 7),a (v (L (L T4)) 8),a (st (v (L I) 9) (ix (v (L I) 1) (v I 3)) (v I 909))]))))))))
 (.call f_impl_inRange [a (v (L V3) 4),a (v (L TR) 5),a (v (L I) 9)] 205
 (.ite (nt (v B 205))
 (.ret [a (nl I),a (k false)])
 (.ret [a (v (L I) 9),a (k true)])))))))))
def tr_slices_Equal_Sint_int:Tr:=.ite (ne (ln (v (L I) 0)) (ln (v (L I) 1)))
 (.ret [a (k false)])
 (.loop [a (v (L I) 0),a (v (L I) 1),a (ln (v (L I) 0)),a (c 0)]
 (.ite (lt (v I 3) (v I 2))
 (.guard (le (c 0) (v I 3))
 (.guard (lt (v I 3) (ln (v (L I) 0)))
 (.guard (le (c 0) (v I 3))
 (.guard (lt (v I 3) (ln (v (L I) 1)))
 (.ite (ne (ix (v (L I) 0) (v I 3)) (ix (v (L I) 1) (v I 3)))
 (.ret [a (k false)])
 (.jump 0 [a (v (L I) 0),a (v (L I) 1),a (v I 2),a (add (v I 3) (c 1))]))))))
 (.ret [a (k true)])))
def tr_impl_ruleBetween:Tr:=.loop [a (v (L I) 2),a (v (L I) 3),a (ln (v (L TR) 1)),a (c 0),a (v (L V3) 0),a (v (L TR) 1)]
 (.ite (lt (v I 3) (v I 2))
 (.join
 (.call f_impl_use [a (v (L V3) 4),a (v (L TR) 5),a (v (L I) 0),a (v I 3)] 391
 (.ite (v B 392)
 (.call f_slices_Equal_Sint_int [a (v (L I) 391),a (v (L I) 1)] 1031
 (.ite (v B 1031)
 (.ret [a (v I 3)])
 (.jump 0 [a (v (L I) 0),a (v (L I) 1),a (v I 2),a (v I 3),a (v (L V3) 4),a (v (L TR) 5)])))
 (.jump 0 [a (v (L I) 0),a (v (L I) 1),a (v I 2),a (v I 3),a (v (L V3) 4),a (v (L TR) 5)])))
 (.jump 0 [a (v (L I) 0),a (v (L I) 1),a (v I 2),a (add (v I 3) (c 1)),a (v (L V3) 4),a (v (L TR) 5)]))
 (.ret [a (c (-1))]))
def tr_spec_l2Is:Tr:=.call f_spec_KindsOf [a (v (L T4) 0),a (v I 1)] 100192
 (.ite (gt (ln (v (L I) 100192)) (c 0))
 (.guard (le (c 0) (sub (ln (v (L I) 100192)) (c 1)))
 (.guard (lt (sub (ln (v (L I) 100192)) (c 1)) (ln (v (L I) 100192)))
 (.ret [a (eq (ix (v (L I) 100192) (sub (ln (v (L I) 100192)) (c 1))) (v I 2))])))
 (.ret [a (k false)]))
def tr_spec_l2Rule:Tr:=.call f_spec_l2Is [a (v (L T4) 0),a (v I 3),a (c 2)] 100320
 (.ite (nt (v B 100320))
 (.ret [a (k false)])
 (.ite (ne (ln (v (L I) 1)) (ln (v (L (L T4)) 2)))
 (.ret [a (k false)])
 (.ite (gt (ln (v (L I) 1)) (v I 3))
 (.ret [a (k false)])
 (.loop [a (v I 3),a (c 0),a (v (L T4) 0),a (v (L I) 1),a (v (L (L T4)) 2)]
 (.ite (lt (v I 1) (ln (v (L I) 3)))
 (.join
 (.guard (le (c 0) (v I 1))
 (.guard (lt (v I 1) (ln (v (L I) 3)))
 (.call f_spec_l1In [a (ix (v (L I) 3) (v I 1)),a (c 0),a (sub (v I 0) (c 1))] 774
 (.ite (nt (v B 774))
 (.ret [a (k false)])
 (.ite (gt (v I 1) (c 0))
 (.guard (le (c 0) (v I 1))
 (.guard (lt (v I 1) (ln (v (L I) 3)))
 (.guard (le (c 0) (sub (v I 1) (c 1)))
 (.guard (lt (sub (v I 1) (c 1)) (ln (v (L I) 3)))
 (.ite (le (ix (v (L I) 3) (v I 1)) (ix (v (L I) 3) (sub (v I 1) (c 1))))
 (.ret [a (k false)])
 (.guard (le (c 0) (v I 1))
 (.guard (lt (v I 1) (ln (v (L (L T4)) 4)))
 (.call f_spec_l2Is [a (ix (v (L (L T4)) 4) (v I 1)),a (v I 0),a (c 1)] 2502
 (.ite (nt (v B 2502))
 (.ret [a (k false)])
 (.jump 0 [a (v I 0),a (v I 1),a (v (L T4) 2),a (v (L I) 3),a (v (L (L T4)) 4)]))))))))))
 (.guard (le (c 0) (v I 1))
 (.guard (lt (v I 1) (ln (v (L (L T4)) 4)))
 (.call f_spec_l2Is [a (ix (v (L (L T4)) 4) (v I 1)),a (v I 0),a (c 1)] 2502
 (.ite (nt (v B 2502))
 (.ret [a (k false)])
 (.jump 0 [a (v I 0),a (v I 1),a (v (L T4) 2),a (v (L I) 3),a (v (L (L T4)) 4)]))))))))))
 (.jump 0 [a (v I 0),a (add (v I 1) (c 1)),a (v (L T4) 2),a (v (L I) 3),a (v (L (L T4)) 4)]))
 (.ret [a (k true)]))))))
def tr_spec_SystemValid:Tr:=.call f_spec_l1In [a (ln (v (L V3) 0)),a (c 1),a (c 5)] 100320
 (.ite (nt (v B 100320))
 (.ret [a (k false)])
 (.ite (gt (ln (v (L TR) 1)) (c 8))
 (.ret [a (k false)])
 (.loop [a (c 1),a (c 0),a (v (L V3) 0),a (v (L TR) 1)]
 (.ite (lt (v I 1) (ln (v (L V3) 2)))
 (.guard (le (c 0) (v I 1))
 (.guard (lt (v I 1) (ln (v (L V3) 2)))
 (.call f_spec_l2Var [a (f (ix (v (L V3) 2) (v I 1))),a (f (s (ix (v (L V3) 2) (v I 1)))),a (s (s (ix (v (L V3) 2) (v I 1))))] 645
 (.ite (nt (v B 645))
 (.ret [a (k false)])
 (.guard (le (c 0) (v I 1))
 (.guard (lt (v I 1) (ln (v (L V3) 2)))
 (.guard (le (c 0) (v I 1))
 (.guard (lt (v I 1) (ln (v (L V3) 2)))
 (.jump 0 [a (mul (v I 0) (add (sub (f (s (ix (v (L V3) 2) (v I 1)))) (f (ix (v (L V3) 2) (v I 1)))) (c 1))),a (add (v I 1) (c 1)),a (v (L V3) 2),a (v (L TR) 3)])))))))))
 (.loop [a (v I 0),a (c 0),a (v (L V3) 2),a (v (L TR) 3)]
 (.ite (lt (v I 1) (ln (v (L TR) 3)))
 (.guard (le (c 0) (v I 1))
 (.guard (lt (v I 1) (ln (v (L TR) 3)))
 (.call f_spec_l2Rule [a (f (ix (v (L TR) 3) (v I 1))),a (f (s (ix (v (L TR) 3) (v I 1)))),a (s (s (ix (v (L TR) 3) (v I 1)))),a (ln (v (L V3) 2))] 837
 (.ite (nt (v B 837))
 (.ret [a (k false)])
 (.jump 0 [a (v I 0),a (add (v I 1) (c 1)),a (v (L V3) 2),a (v (L TR) 3)])))))
 (.ret [a (le (v I 0) (c 400))])))))))
def tr_spec_FirstState:Tr:=.join
 (.loop [a (c 0),a (v (L V3) 0),a (v (L TR) 1),a (nl I)]
 (.ite (lt (v I 0) (ln (v (L V3) 1)))
 (.call f_spec_SystemValid [a (v (L V3) 1),a (v (L TR) 2)] 454
 (.ite (v B 454)
 (.guard (le (c 0) (v I 0))
 (.guard (lt (v I 0) (ln (v (L V3) 1)))
 (.guard (le (ln (v (L I) 3)) (c 549755813888))
 (.guard (le (ln (one (s (s (ix (v (L V3) 1) (v I 0)))))) (c 549755813888))
 (.jump 0 [a (add (v I 0) (c 1)),a (v (L V3) 1),a (v (L TR) 2),a (app (v (L I) 3) (one (s (s (ix (v (L V3) 1) (v I 0))))))])))))
 (.jump 1 [a (v (L I) 3)])))
 (.jump 1 [a (v (L I) 3)])))
 (.ret [a (v (L I) 0)])
def tr_spec_l3Copy:Tr:=.loop [a (v (L I) 0),a (c 0),a (nl I)]
 (.ite (lt (v I 1) (ln (v (L I) 0)))
 (.guard (le (c 0) (v I 1))
 (.guard (lt (v I 1) (ln (v (L I) 0)))
 (.guard (le (ln (v (L I) 2)) (c 549755813888))
 (.guard (le (ln (one (ix (v (L I) 0) (v I 1)))) (c 549755813888))
 (.jump 0 [a (v (L I) 0),a (add (v I 1) (c 1)),a (app (v (L I) 2) (one (ix (v (L I) 0) (v I 1))))])))))
 (.ret [a (v (L I) 2)]))
def tr_spec_l1Held:Tr:=.ite (gt (v I 0) (c 9999))
 (.ret [a (c 9999)])
 (.ite (lt (v I 0) (c (-9999)))
 (.ret [a (c (-9999))])
 (.ret [a (v I 0)]))
def tr_spec_l1Truth:Tr:=.ite (v B 0)
 (.ret [a (c 1)])
 (.ret [a (c 0)])
def tr_spec_l1Do:Tr:=.ite (eq (v I 0) (c 2))
 (.call f_spec_l1Held [a (add (v I 1) (v I 2))] 100384
 (.ret [a (v I 100384)]))
 (.ite (eq (v I 0) (c 3))
 (.call f_spec_l1Held [a (sub (v I 1) (v I 2))] 100512
 (.ret [a (v I 100512)]))
 (.ite (eq (v I 0) (c 4))
 (.call f_spec_l1Held [a (mul (v I 1) (v I 2))] 100640
 (.ret [a (v I 100640)]))
 (.ite (eq (v I 0) (c 5))
 (.call f_spec_l1Truth [a (lt (v I 1) (v I 2))] 100768
 (.ret [a (v I 100768)]))
 (.ite (eq (v I 0) (c 6))
 (.call f_spec_l1Truth [a (eq (v I 1) (v I 2))] 100896
 (.ret [a (v I 100896)]))
 (.ite (eq (v I 0) (c 7))
 (.ret [a (sub (c 1) (v I 1))])
 (.ite (eq (v I 0) (c 8))
 (.ret [a (mul (v I 1) (v I 2))])
 (.call f_spec_l1Truth [a (gt (add (v I 1) (v I 2)) (c 0))] 101216
 (.ret [a (v I 101216)]))))))))
def tr_spec_l1Values:Tr:=.loop [a (v (L T4) 0),a (v (L I) 1),a (c 0),a (nl I)]
 (.ite (lt (v I 2) (ln (v (L T4) 0)))
 (.join
 (.guard (le (c 0) (v I 2))
 (.guard (lt (v I 2) (ln (v (L T4) 0)))
 (.ite (eq (f (ix (v (L T4) 0) (v I 2))) (c 0))
 (.guard (le (ln (v (L I) 3)) (c 549755813888))
 (.guard (le (ln (one (f (s (ix (v (L T4) 0) (v I 2)))))) (c 549755813888))
 (.jump 0 [a (v (L T4) 0),a (v (L I) 1),a (v I 2),a (app (v (L I) 3) (one (f (s (ix (v (L T4) 0) (v I 2))))))])))
 (.ite (eq (f (ix (v (L T4) 0) (v I 2))) (c 1))
 (.guard (le (c 0) (f (s (ix (v (L T4) 0) (v I 2)))))
 (.guard (lt (f (s (ix (v (L T4) 0) (v I 2)))) (ln (v (L I) 1)))
 (.guard (le (ln (v (L I) 3)) (c 549755813888))
 (.guard (le (ln (one (ix (v (L I) 1) (f (s (ix (v (L T4) 0) (v I 2))))))) (c 549755813888))
 (.jump 0 [a (v (L T4) 0),a (v (L I) 1),a (v I 2),a (app (v (L I) 3) (one (ix (v (L I) 1) (f (s (ix (v (L T4) 0) (v I 2)))))))])))))
 (.guard (le (c 0) (f (s (s (ix (v (L T4) 0) (v I 2))))))
 (.guard (lt (f (s (s (ix (v (L T4) 0) (v I 2))))) (ln (v (L I) 3)))
 (.guard (le (c 0) (s (s (s (ix (v (L T4) 0) (v I 2))))))
 (.guard (lt (s (s (s (ix (v (L T4) 0) (v I 2))))) (ln (v (L I) 3)))
 (.call f_spec_l1Do [a (f (ix (v (L T4) 0) (v I 2))),a (ix (v (L I) 3) (f (s (s (ix (v (L T4) 0) (v I 2)))))),a (ix (v (L I) 3) (s (s (s (ix (v (L T4) 0) (v I 2))))))] 1861
 (.guard (le (ln (v (L I) 3)) (c 549755813888))
 (.guard (le (ln (one (v I 1861))) (c 549755813888))
 (.jump 0 [a (v (L T4) 0),a (v (L I) 1),a (v I 2),a (app (v (L I) 3) (one (v I 1861)))]))))))))))))
 (.jump 0 [a (v (L T4) 0),a (v (L I) 1),a (add (v I 2) (c 1)),a (v (L I) 3)]))
 (.ret [a (v (L I) 3)]))
def tr_spec_l2Last:Tr:=.call f_spec_l1Values [a (v (L T4) 0),a (v (L I) 1)] 100192
 (.guard (le (c 0) (sub (ln (v (L T4) 0)) (c 1)))
 (.guard (lt (sub (ln (v (L T4) 0)) (c 1)) (ln (v (L I) 100192)))
 (.ret [a (ix (v (L I) 100192) (sub (ln (v (L T4) 0)) (c 1)))])))
def tr_spec_l2In:Tr:=.ite (ne (ln (v (L I) 2)) (ln (v (L V3) 0)))
 (.ret [a (k false)])
 (.loop [a (v (L I) 2),a (c 0),a (v (L V3) 0),a (v (L TR) 1)]
 (.ite (lt (v I 1) (ln (v (L I) 0)))
 (.guard (le (c 0) (v I 1))
 (.guard (lt (v I 1) (ln (v (L I) 0)))
 (.guard (le (c 0) (v I 1))
 (.guard (lt (v I 1) (ln (v (L V3) 2)))
 (.guard (le (c 0) (v I 1))
 (.guard (lt (v I 1) (ln (v (L V3) 2)))
 (.call f_spec_l1In [a (ix (v (L I) 0) (v I 1)),a (f (ix (v (L V3) 2) (v I 1))),a (f (s (ix (v (L V3) 2) (v I 1))))] 1285
 (.ite (nt (v B 1285))
 (.ret [a (k false)])
 (.jump 0 [a (v (L I) 0),a (add (v I 1) (c 1)),a (v (L V3) 2),a (v (L TR) 3)])))))))))
 (.ret [a (k true)])))
def tr_spec_l2Use:Tr:=.guard (le (c 0) (v I 3))
 (.guard (lt (v I 3) (ln (v (L TR) 1)))
 (.call f_spec_l2Last [a (f (ix (v (L TR) 1) (v I 3))),a (v (L I) 2)] 100768
 (.ite (eq (v I 100768) (c 0))
 (.ret [a (nl I)])
 (.loop [a (v (L I) 2),a (c 0),a (v (L V3) 0),a (v (L TR) 1),a (f (ix (v (L TR) 1) (v I 3))),a (f (s (ix (v (L TR) 1) (v I 3)))),a (s (s (ix (v (L TR) 1) (v I 3)))),a (nl I)]
 (.ite (lt (v I 1) (ln (v (L I) 0)))
 (.guard (le (c 0) (v I 1))
 (.guard (lt (v I 1) (ln (v (L I) 0)))
 (.guard (le (ln (v (L I) 7)) (c 549755813888))
 (.guard (le (ln (one (ix (v (L I) 0) (v I 1)))) (c 549755813888))
 (.jump 0 [a (v (L I) 0),a (add (v I 1) (c 1)),a (v (L V3) 2),a (v (L TR) 3),a (v (L T4) 4),a (v (L I) 5),a (v (L (L T4)) 6),a (app (v (L I) 7) (one (ix (v (L I) 0) (v I 1))))])))))
 (.loop [a (v (L I) 0),a (c 0),a (v (L V3) 2),a (v (L TR) 3),a (v (L T4) 4),a (v (L I) 5),a (v (L (L T4)) 6),a (v (L I) 7)]
 (.ite (lt (v I 1) (ln (v (L I) 5)))
 (.guard (le (c 0) (v I 1))
 (.guard (lt (v I 1) (ln (v (L I) 5)))
 (.guard (le (c 0) (v I 1))
 (.guard (lt (v I 1) (ln (v (L (L T4)) 6)))
 (.call f_spec_l2Last [a (ix (v (L (L T4)) 6) (v I 1)),a (v (L I) 0)] 1099
 (.guard (le (c 0) (ix (v (L I) 5) (v I 1)))
 (.guard (lt (ix (v (L I) 5) (v I 1)) (ln (v (L I) 7)))
 (.jump 0 [a (v (L I) 0),a (add (v I 1) (c 1)),a (v (L V3) 2),a (v (L TR) 3),a (v (L T4) 4),a (v (L I) 5),a (v (L (L T4)) 6),a (st (v (L I) 7) (ix (v (L I) 5) (v I 1)) (v I 1099))]))))))))
 (.call f_spec_l2In [a (v (L V3) 2),a (v (L TR) 3),a (v (L I) 7)] 459
 (.ite (nt (v B 459))
 (.ret [a (nl I)])
 (.ret [a (v (L I) 7)]))))))))))
def tr_spec_l2Same:Tr:=.ite (ne (ln (v (L I) 0)) (ln (v (L I) 1)))
 (.ret [a (k false)])
 (.loop [a (v (L I) 0),a (v (L I) 1),a (c 0)]
 (.ite (lt (v I 2) (ln (v (L I) 0)))
 (.guard (le (c 0) (v I 2))
 (.guard (lt (v I 2) (ln (v (L I) 0)))
 (.guard (le (c 0) (v I 2))
 (.guard (lt (v I 2) (ln (v (L I) 1)))
 (.ite (ne (ix (v (L I) 0) (v I 2)) (ix (v (L I) 1) (v I 2)))
 (.ret [a (k false)])
 (.jump 0 [a (v (L I) 0),a (v (L I) 1),a (add (v I 2) (c 1))]))))))
 (.ret [a (k true)])))
def tr_spec_l2Less:Tr:=.join
 (.loop [a (v (L I) 0),a (v (L I) 1),a (c 0)]
 (.ite (lt (v I 2) (ln (v (L I) 0)))
 (.ite (lt (v I 2) (ln (v (L I) 1)))
 (.guard (le (c 0) (v I 2))
 (.guard (lt (v I 2) (ln (v (L I) 0)))
 (.guard (le (c 0) (v I 2))
 (.guard (lt (v I 2) (ln (v (L I) 1)))
 (.ite (ne (ix (v (L I) 0) (v I 2)) (ix (v (L I) 1) (v I 2)))
 (.guard (le (c 0) (v I 2))
 (.guard (lt (v I 2) (ln (v (L I) 0)))
 (.guard (le (c 0) (v I 2))
 (.guard (lt (v I 2) (ln (v (L I) 1)))
 (.ret [a (lt (ix (v (L I) 0) (v I 2)) (ix (v (L I) 1) (v I 2)))])))))
 (.jump 0 [a (v (L I) 0),a (v (L I) 1),a (add (v I 2) (c 1))]))))))
 (.jump 1 [a (v (L I) 0),a (v (L I) 1)]))
 (.jump 1 [a (v (L I) 0),a (v (L I) 1)])))
 (.ret [a (lt (ln (v (L I) 0)) (ln (v (L I) 1)))])
def tr_spec_l2Put:Tr:=.loop [a (v (L (L I)) 0),a (v (L I) 1),a (k false),a (c 0),a (nl (L I))]
 (.ite (lt (v I 3) (ln (v (L (L I)) 0)))
 (.join
 (.ite (nt (v B 2))
 (.guard (le (c 0) (v I 3))
 (.guard (lt (v I 3) (ln (v (L (L I)) 0)))
 (.call f_spec_l2Same [a (ix (v (L (L I)) 0) (v I 3)),a (v (L I) 1)] 774
 (.ite (v B 774)
 (.jump 0 [a (v (L (L I)) 0),a (v (L I) 1),a (k true),a (v I 3),a (v (L (L I)) 4)])
 (.jump 0 [a (v (L (L I)) 0),a (v (L I) 1),a (v B 2),a (v I 3),a (v (L (L I)) 4)])))))
 (.jump 0 [a (v (L (L I)) 0),a (v (L I) 1),a (v B 2),a (v I 3),a (v (L (L I)) 4)]))
 (.join
 (.ite (nt (v B 2))
 (.guard (le (c 0) (v I 3))
 (.guard (lt (v I 3) (ln (v (L (L I)) 0)))
 (.call f_spec_l2Less [a (v (L I) 1),a (ix (v (L (L I)) 0) (v I 3))] 518
 (.ite (v B 518)
 (.guard (le (ln (v (L (L I)) 4)) (c 549755813888))
 (.guard (le (ln (one (v (L I) 1))) (c 549755813888))
 (.jump 0 [a (v (L (L I)) 0),a (v (L I) 1),a (k true),a (v I 3),a (app (v (L (L I)) 4) (one (v (L I) 1)))])))
 (.jump 0 [a (v (L (L I)) 0),a (v (L I) 1),a (v B 2),a (v I 3),a (v (L (L I)) 4)])))))
 (.jump 0 [a (v (L (L I)) 0),a (v (L I) 1),a (v B 2),a (v I 3),a (v (L (L I)) 4)]))
 (.guard (le (c 0) (v I 3))
 (.guard (lt (v I 3) (ln (v (L (L I)) 0)))
 (.guard (le (ln (v (L (L I)) 4)) (c 549755813888))
 (.guard (le (ln (one (ix (v (L (L I)) 0) (v I 3)))) (c 549755813888))
 (.jump 0 [a (v (L (L I)) 0),a (v (L I) 1),a (v B 2),a (add (v I 3) (c 1)),a (app (v (L (L I)) 4) (one (ix (v (L (L I)) 0) (v I 3))))])))))))
 (.join
 (.ite (nt (v B 2))
 (.guard (le (ln (v (L (L I)) 4)) (c 549755813888))
 (.guard (le (ln (one (v (L I) 1))) (c 549755813888))
 (.jump 0 [a (app (v (L (L I)) 4) (one (v (L I) 1)))])))
 (.jump 0 [a (v (L (L I)) 4)]))
 (.ret [a (v (L (L I)) 0)])))
def tr_spec_l2Next:Tr:=.loop [a (v (L I) 2),a (c 0),a (v (L V3) 0),a (v (L TR) 1),a (nl (L I))]
 (.ite (lt (v I 1) (ln (v (L TR) 3)))
 (.join
 (.call f_spec_l2Use [a (v (L V3) 2),a (v (L TR) 3),a (v (L I) 0),a (v I 1)] 519
 (.ite (gt (ln (v (L I) 519)) (c 0))
 (.call f_spec_l2Put [a (v (L (L I)) 4),a (v (L I) 519)] 967
 (.jump 0 [a (v (L I) 0),a (v I 1),a (v (L V3) 2),a (v (L TR) 3),a (v (L (L I)) 967)]))
 (.jump 0 [a (v (L I) 0),a (v I 1),a (v (L V3) 2),a (v (L TR) 3),a (v (L (L I)) 4)])))
 (.jump 0 [a (v (L I) 0),a (add (v I 1) (c 1)),a (v (L V3) 2),a (v (L TR) 3),a (v (L (L I)) 4)]))
 (.ret [a (v (L (L I)) 4)]))
def tr_spec_l2Some:Tr:=.loop [a (c 0),a (f (v (P (L U) I) 0)),a (s (v (P (L U) I) 0)),a (v (L V3) 1),a (v (L TR) 2),a (nl I)]
 (.ite (lt (v I 0) (ln (v (L V3) 3)))
 (.guard (le (c 0) (v I 0))
 (.guard (lt (v I 0) (ln (v (L V3) 3)))
 (.guard (le (c 0) (v I 0))
 (.guard (lt (v I 0) (ln (v (L V3) 3)))
 (.guard (le (c 0) (v I 0))
 (.guard (lt (v I 0) (ln (v (L V3) 3)))
 (.join
 (.ite (gt (add (sub (f (s (ix (v (L V3) 3) (v I 0)))) (f (ix (v (L V3) 3) (v I 0)))) (c 1)) (c 0))
 (.ite (lt (add (sub (f (s (ix (v (L V3) 3) (v I 0)))) (f (ix (v (L V3) 3) (v I 0)))) (c 1)) (c 100))
 (.call f_spec_l40Rd_pick [a (pr (v (L U) 1) (v I 2)),a (add (sub (f (s (ix (v (L V3) 3) (v I 0)))) (f (ix (v (L V3) 3) (v I 0)))) (c 1))] 2313
 (.jump 0 [a (v I 0),a (add (f (ix (v (L V3) 3) (v I 0))) (v I 2313)),a (v (L U) 1),a (s (v (P (L U) I) 2314)),a (v (L V3) 3),a (v (L TR) 4),a (v (L I) 5)]))
 (.jump 0 [a (v I 0),a (f (ix (v (L V3) 3) (v I 0))),a (v (L U) 1),a (v I 2),a (v (L V3) 3),a (v (L TR) 4),a (v (L I) 5)]))
 (.jump 0 [a (v I 0),a (f (ix (v (L V3) 3) (v I 0))),a (v (L U) 1),a (v I 2),a (v (L V3) 3),a (v (L TR) 4),a (v (L I) 5)]))
 (.guard (le (ln (v (L I) 6)) (c 549755813888))
 (.guard (le (ln (one (v I 1))) (c 549755813888))
 (.jump 0 [a (add (v I 0) (c 1)),a (v (L U) 2),a (v I 3),a (v (L V3) 4),a (v (L TR) 5),a (app (v (L I) 6) (one (v I 1)))]))))))))))
 (.join
 (.call f_spec_l40Rd_pick [a (pr (v (L U) 1) (v I 2)),a (c 15)] 393
 (.ite (eq (v I 393) (c 0))
 (.call f_spec_l40Rd_pick [a (pr (v (L U) 1) (s (v (P (L U) I) 394))),a (c 2)] 585
 (.ite (eq (v I 585) (c 0))
 (.guard (le (ln (v (L I) 5)) (c 549755813888))
 (.guard (le (ln (one (c 0))) (c 549755813888))
 (.jump 0 [a (v (L U) 1),a (s (v (P (L U) I) 586)),a (app (v (L I) 5) (one (c 0)))])))
 (.ite (eq (ln (v (L I) 5)) (c 0))
 (.guard (le (ln (v (L I) 5)) (c 549755813888))
 (.guard (le (ln (one (c 0))) (c 549755813888))
 (.jump 0 [a (v (L U) 1),a (s (v (P (L U) I) 586)),a (app (v (L I) 5) (one (c 0)))])))
 (.guard (lt (c 0) (ln (v (L V3) 3)))
 (.guard (lt (c 0) (ln (v (L I) 5)))
 (.jump 0 [a (v (L U) 1),a (s (v (P (L U) I) 586)),a (st (v (L I) 5) (c 0) (add (f (s (ix (v (L V3) 3) (c 0)))) (c 1)))]))))))
 (.jump 0 [a (v (L U) 1),a (s (v (P (L U) I) 394)),a (v (L I) 5)])))
 (.ret [a (v (L I) 2),a (pr (v (L U) 0) (v I 1))])))
def tr_spec_l3Laced:Tr:=.call f_spec_l40Open [a (v (L U) 0)] 100320
 (.call f_spec_l2Any [a (pr (f (v (P (L U) I) 100320)) (s (v (P (L U) I) 100320))),a (c 40)] 100512
 (.call f_spec_SystemValid [a (v (L V3) 100512),a (v (L TR) 100513)] 100768
 (.ite (nt (v B 100768))
 (.join
 (.jump 0 [a (f (v (P (L U) I) 100320)),a (s (v (P (L U) I) 100514)),a (v (L V3) 100512),a (v (L TR) 100513),a (one (one (c 0)))])
 (.ret [a (pr (v (L U) 0) (v I 1)),a (v (L V3) 2),a (v (L TR) 3),a (nl (L I)),a (v (L (L I)) 4)]))
 (.call f_spec_FirstState [a (v (L V3) 100512),a (v (L TR) 100513)] 101344
 (.join
 (.loop [a (c (-1)),a (c 0),a (f (v (P (L U) I) 100320)),a (s (v (P (L U) I) 100514)),a (v (L V3) 100512),a (v (L TR) 100513),a (one (v (L I) 101344)),a (v (L V3) 100512),a (v (L TR) 100513)]
 (.ite (lt (v I 1) (c 24))
 (.ite (lt (v I 0) (c 0))
 (.join
 (.guard (le (c 0) (sub (ln (v (L (L I)) 6)) (c 1)))
 (.guard (lt (sub (ln (v (L (L I)) 6)) (c 1)) (ln (v (L (L I)) 6)))
 (.call f_spec_l2Next [a (v (L V3) 4),a (v (L TR) 5),a (ix (v (L (L I)) 6) (sub (ln (v (L (L I)) 6)) (c 1)))] 974
 (.call f_spec_l3Copy [a (ix (v (L (L I)) 6) (sub (ln (v (L (L I)) 6)) (c 1)))] 1166
 (.join
 (.ite (gt (ln (v (L (L I)) 974)) (c 0))
 (.call f_spec_l40Rd_pick [a (pr (v (L U) 2) (v I 3)),a (ln (v (L (L I)) 974))] 1742
 (.guard (le (c 0) (v I 1742))
 (.guard (lt (v I 1742) (ln (v (L (L I)) 974)))
 (.jump 0 [a (v I 0),a (v I 1),a (ix (v (L (L I)) 974) (v I 1742)),a (v (L U) 2),a (s (v (P (L U) I) 1743)),a (v (L V3) 4),a (v (L TR) 5),a (v (L (L I)) 6),a (v (L V3) 7),a (v (L TR) 8)]))))
 (.jump 0 [a (v I 0),a (v I 1),a (v (L I) 1166),a (v (L U) 2),a (v I 3),a (v (L V3) 4),a (v (L TR) 5),a (v (L (L I)) 6),a (v (L V3) 7),a (v (L TR) 8)]))
 (.loop [a (v I 0),a (v I 1),a (v (L I) 2),a (c 0),a (v (L U) 3),a (v I 4),a (v (L V3) 5),a (v (L TR) 6),a (v (L (L I)) 7),a (v (L V3) 8),a (v (L TR) 9)]
 (.ite (lt (v I 3) (ln (v (L (L I)) 8)))
 (.join
 (.guard (le (c 0) (v I 3))
 (.guard (lt (v I 3) (ln (v (L (L I)) 8)))
 (.call f_spec_l2Same [a (ix (v (L (L I)) 8) (v I 3)),a (v (L I) 2)] 592
 (.ite (v B 592)
 (.jump 0 [a (v I 3),a (v I 1),a (v (L I) 2),a (v I 3),a (v (L U) 4),a (v I 5),a (v (L V3) 6),a (v (L TR) 7),a (v (L (L I)) 8),a (v (L V3) 9),a (v (L TR) 10)])
 (.jump 0 [a (v I 0),a (v I 1),a (v (L I) 2),a (v I 3),a (v (L U) 4),a (v I 5),a (v (L V3) 6),a (v (L TR) 7),a (v (L (L I)) 8),a (v (L V3) 9),a (v (L TR) 10)])))))
 (.jump 0 [a (v I 0),a (v I 1),a (v (L I) 2),a (add (v I 3) (c 1)),a (v (L U) 4),a (v I 5),a (v (L V3) 6),a (v (L TR) 7),a (v (L (L I)) 8),a (v (L V3) 9),a (v (L TR) 10)]))
 (.ite (lt (v I 0) (c 0))
 (.guard (le (ln (v (L (L I)) 8)) (c 549755813888))
 (.guard (le (ln (one (v (L I) 2))) (c 549755813888))
 (.jump 1 [a (v I 0),a (v I 1),a (v (L U) 4),a (v I 5),a (v (L V3) 6),a (v (L TR) 7),a (app (v (L (L I)) 8) (one (v (L I) 2))),a (v (L V3) 9),a (v (L TR) 10)])))
 (.jump 1 [a (v I 0),a (v I 1),a (v (L U) 4),a (v I 5),a (v (L V3) 6),a (v (L TR) 7),a (v (L (L I)) 8),a (v (L V3) 9),a (v (L TR) 10)])))))))))
 (.jump 0 [a (v I 0),a (add (v I 1) (c 1)),a (v (L U) 2),a (v I 3),a (v (L V3) 4),a (v (L TR) 5),a (v (L (L I)) 6),a (v (L V3) 7),a (v (L TR) 8)]))
 (.jump 1 [a (v I 0),a (v (L (L I)) 6),a (v (L U) 2),a (v I 3),a (v (L V3) 7),a (v (L TR) 8)]))
 (.jump 1 [a (v I 0),a (v (L (L I)) 6),a (v (L U) 2),a (v I 3),a (v (L V3) 7),a (v (L TR) 8)])))
 (.join
 (.ite (lt (v I 0) (c 0))
 (.jump 0 [a (c 0),a (v (L (L I)) 1),a (v (L U) 2),a (v I 3),a (v (L V3) 4),a (v (L TR) 5)])
 (.jump 0 [a (v I 0),a (v (L (L I)) 1),a (v (L U) 2),a (v I 3),a (v (L V3) 4),a (v (L TR) 5)]))
 (.guard (le (v I 0) (ln (v (L (L I)) 1)))
 (.guard (le (c 0) (v I 0))
 (.guard (le (c 0) (v I 0))
 (.guard (le (v I 0) (ln (v (L (L I)) 1)))
 (.join
 (.jump 0 [a (c 0),a (v I 0),a (v I 0),a (ln (v (L (L I)) 1)),a (v (L (L I)) 1),a (v (L U) 2),a (v I 3),a (v (L V3) 4),a (v (L TR) 5)])
 (.join
 (.call f_spec_l40Rd_pick [a (pr (v (L U) 5) (v I 6)),a (c 9)] 589
 (.ite (eq (v I 589) (c 0))
 (.call f_spec_l40Rd_pick [a (pr (v (L U) 5) (s (v (P (L U) I) 590))),a (c 3)] 781
 (.ite (eq (v I 781) (c 0))
 (.jump 0 [a (drop (take (v (L (L I)) 4) (v I 1)) (v I 0)),a (nl (L I)),a (v (L U) 5),a (s (v (P (L U) I) 782)),a (v (L V3) 7),a (v (L TR) 8)])
 (.ite (eq (v I 781) (c 1))
 (.ite (gt (ln (drop (take (v (L (L I)) 4) (v I 3)) (v I 2))) (c 1))
 (.guard (le (c 1) (ln (re false (drop (take (v (L (L I)) 4) (v I 3)) (v I 2)))))
 (.jump 0 [a (drop (take (v (L (L I)) 4) (v I 1)) (v I 0)),a (drop (re false (drop (take (v (L (L I)) 4) (v I 3)) (v I 2))) (c 1)),a (v (L U) 5),a (s (v (P (L U) I) 782)),a (v (L V3) 7),a (v (L TR) 8)]))
 (.call f_spec_l2Some [a (pr (v (L U) 5) (s (v (P (L U) I) 782))),a (v (L V3) 7),a (v (L TR) 8)] 1677
 (.guard (eq (v I 3) (ln (v (L (L I)) 4)))
 (.guard (le (ln (v (L (L I)) 4)) (c 549755813888))
 (.guard (le (ln (one (v (L I) 1677))) (c 549755813888))
 (.jump 0 [a (drop (take (v (L (L I)) 4) (v I 1)) (v I 0)),a (app (drop (take (v (L (L I)) 4) (v I 3)) (v I 2)) (one (v (L I) 1677))),a (v (L U) 5),a (s (v (P (L U) I) 1678)),a (v (L V3) 7),a (v (L TR) 8)]))))))
 (.call f_spec_l2Some [a (pr (v (L U) 5) (s (v (P (L U) I) 782))),a (v (L V3) 7),a (v (L TR) 8)] 1677
 (.guard (eq (v I 3) (ln (v (L (L I)) 4)))
 (.guard (le (ln (v (L (L I)) 4)) (c 549755813888))
 (.guard (le (ln (one (v (L I) 1677))) (c 549755813888))
 (.jump 0 [a (drop (take (v (L (L I)) 4) (v I 1)) (v I 0)),a (app (drop (take (v (L (L I)) 4) (v I 3)) (v I 2)) (one (v (L I) 1677))),a (v (L U) 5),a (s (v (P (L U) I) 1678)),a (v (L V3) 7),a (v (L TR) 8)]))))))))
 (.jump 0 [a (drop (take (v (L (L I)) 4) (v I 1)) (v I 0)),a (drop (take (v (L (L I)) 4) (v I 3)) (v I 2)),a (v (L U) 5),a (s (v (P (L U) I) 590)),a (v (L V3) 7),a (v (L TR) 8)])))
 (.ret [a (pr (v (L U) 2) (v I 3)),a (v (L V3) 4),a (v (L TR) 5),a (v (L (L I)) 0),a (v (L (L I)) 1)])))))))))))))
def tr_spec_l20Asked:Tr:=.join
 (.call f_spec_l40Rd_num [a (pr (f (v (P (L U) I) 0)) (s (v (P (L U) I) 0))),a (app (one (c 1)) (app (one (c 2)) (app (one (c 1)) (app (one (c 2)) (one (c 0))))))] 100384
 (.loop [a (v I 100384),a (f (v (P (L U) I) 0)),a (s (v (P (L U) I) 100385)),a (v (L V3) 1),a (v (L TR) 2),a (nl (L T4))]
 (.ite (gt (v I 0) (c 0))
 (.ite (gt (ln (v (L V3) 3)) (c 0))
 (.join
 (.guard (lt (c 0) (ln (v (L V3) 3)))
 (.call f_spec_l2Var [a (f (ix (v (L V3) 3) (c 0))),a (f (s (ix (v (L V3) 3) (c 0)))),a (s (s (ix (v (L V3) 3) (c 0))))] 777
 (.ite (v B 777)
 (.call f_spec_l40Rd_pick [a (pr (v (L U) 1) (v I 2)),a (c 20)] 969
 (.ite (gt (v I 969) (c 0))
 (.guard (lt (c 0) (ln (v (L V3) 3)))
 (.call f_spec_l2Cond [a (pr (v (L U) 1) (s (v (P (L U) I) 970))),a (f (ix (v (L V3) 3) (c 0))),a (f (s (ix (v (L V3) 3) (c 0)))),a (s (s (ix (v (L V3) 3) (c 0)))),a (c 0)] 1545
 (.guard (le (ln (v (L (L T4)) 5)) (c 549755813888))
 (.guard (le (ln (one (v (L T4) 1545))) (c 549755813888))
 (.jump 0 [a (v I 0),a (v (L U) 1),a (s (v (P (L U) I) 1546)),a (v (L V3) 3),a (v (L TR) 4),a (app (v (L (L T4)) 5) (one (v (L T4) 1545)))])))))
 (.call f_spec_l1Any [a (pr (v (L U) 1) (s (v (P (L U) I) 970))),a (ln (v (L V3) 3))] 1481
 (.guard (le (ln (v (L (L T4)) 5)) (c 549755813888))
 (.guard (le (ln (one (v (L T4) 1481))) (c 549755813888))
 (.jump 0 [a (v I 0),a (v (L U) 1),a (s (v (P (L U) I) 1482)),a (v (L V3) 3),a (v (L TR) 4),a (app (v (L (L T4)) 5) (one (v (L T4) 1481)))]))))))
 (.call f_spec_l1Any [a (pr (v (L U) 1) (v I 2)),a (ln (v (L V3) 3))] 1481
 (.guard (le (ln (v (L (L T4)) 5)) (c 549755813888))
 (.guard (le (ln (one (v (L T4) 1481))) (c 549755813888))
 (.jump 0 [a (v I 0),a (v (L U) 1),a (s (v (P (L U) I) 1482)),a (v (L V3) 3),a (v (L TR) 4),a (app (v (L (L T4)) 5) (one (v (L T4) 1481)))])))))))
 (.jump 0 [a (sub (v I 0) (c 1)),a (v (L U) 1),a (v I 2),a (v (L V3) 3),a (v (L TR) 4),a (v (L (L T4)) 5)]))
 (.jump 1 [a (v (L U) 1),a (v I 2),a (v (L (L T4)) 5)]))
 (.jump 1 [a (v (L U) 1),a (v I 2),a (v (L (L T4)) 5)]))))
 (.ret [a (v (L (L T4)) 2),a (pr (v (L U) 0) (v I 1))])
end Go.Proofs.YtdgpohclhppodaaGreat
namespace Go.Proofs.YtdgpohclhppodaaGreat
open Go Go.Sm Go.Sm.Q
def tr_spec_l20One:Tr:=.ite (eq (v I 0) (c 2))
 (.ret [a (k true)])
 (.ret [a (eq (v I 0) (c 5))])
def tr_spec_l20Draw:Tr:=.call f_spec_l40Rd_pick [a (pr (f (v (P (L U) I) 0)) (s (v (P (L U) I) 0))),a (c 7)] 100256
 (.loop [a (v I 1),a (v I 2),a (add (c 2) (v I 100256)),a (f (v (P (L U) I) 0)),a (s (v (P (L U) I) 100257)),a (nl T4)]
 (.ite (gt (v I 2) (c 0))
 (.call f_spec_l40Rd_num [a (pr (v (L U) 3) (v I 4)),a (app (one (c 1)) (app (one (c 1)) (app (one (c 2)) (app (one (c 3)) (app (one (c 4)) (app (one (c 5)) (app (one (c 6)) (app (one (c 7)) (app (one (c 6)) (app (one (c 7)) (one (c 0))))))))))))] 264
 (.join
 (.ite (ge (v I 264) (c 5))
 (.ite (eq (v I 1) (c 0))
 (.jump 0 [a (v I 0),a (v I 1),a (v I 2),a (c 3),a (v (L U) 3),a (s (v (P (L U) I) 265)),a (v (L T4) 5)])
 (.jump 0 [a (v I 0),a (v I 1),a (v I 2),a (v I 264),a (v (L U) 3),a (s (v (P (L U) I) 265)),a (v (L T4) 5)]))
 (.jump 0 [a (v I 0),a (v I 1),a (v I 2),a (v I 264),a (v (L U) 3),a (s (v (P (L U) I) 265)),a (v (L T4) 5)]))
 (.join
 (.ite (eq (ln (v (L T4) 6)) (c 0))
 (.call f_spec_l40Rd_pick [a (pr (v (L U) 4) (v I 5)),a (v I 0)] 841
 (.ite (eq (v I 0) (c 0))
 (.jump 0 [a (v I 0),a (v I 1),a (v I 2),a (v (L U) 4),a (s (v (P (L U) I) 842)),a (v (L T4) 6),a (c 0),a (c 0),a (c 0),a (c 0)])
 (.ite (eq (v I 3) (c 0))
 (.ite (gt (ln (v (L T4) 6)) (c 0))
 (.jump 0 [a (v I 0),a (v I 1),a (v I 2),a (v (L U) 4),a (s (v (P (L U) I) 842)),a (v (L T4) 6),a (c 0),a (c 0),a (c 0),a (c 0)])
 (.jump 0 [a (v I 0),a (v I 1),a (v I 2),a (v (L U) 4),a (s (v (P (L U) I) 842)),a (v (L T4) 6),a (c 1),a (v I 841),a (c 0),a (c 0)]))
 (.jump 0 [a (v I 0),a (v I 1),a (v I 2),a (v (L U) 4),a (s (v (P (L U) I) 842)),a (v (L T4) 6),a (c 1),a (v I 841),a (c 0),a (c 0)]))))
 (.ite (le (v I 3) (c 1))
 (.call f_spec_l40Rd_pick [a (pr (v (L U) 4) (v I 5)),a (v I 0)] 841
 (.ite (eq (v I 0) (c 0))
 (.jump 0 [a (v I 0),a (v I 1),a (v I 2),a (v (L U) 4),a (s (v (P (L U) I) 842)),a (v (L T4) 6),a (c 0),a (c 0),a (c 0),a (c 0)])
 (.ite (eq (v I 3) (c 0))
 (.ite (gt (ln (v (L T4) 6)) (c 0))
 (.jump 0 [a (v I 0),a (v I 1),a (v I 2),a (v (L U) 4),a (s (v (P (L U) I) 842)),a (v (L T4) 6),a (c 0),a (c 0),a (c 0),a (c 0)])
 (.jump 0 [a (v I 0),a (v I 1),a (v I 2),a (v (L U) 4),a (s (v (P (L U) I) 842)),a (v (L T4) 6),a (c 1),a (v I 841),a (c 0),a (c 0)]))
 (.jump 0 [a (v I 0),a (v I 1),a (v I 2),a (v (L U) 4),a (s (v (P (L U) I) 842)),a (v (L T4) 6),a (c 1),a (v I 841),a (c 0),a (c 0)]))))
 (.call f_spec_l40Rd_pick [a (pr (v (L U) 4) (v I 5)),a (c 2)] 969
 (.call f_spec_l40Rd_pick [a (pr (v (L U) 4) (s (v (P (L U) I) 970))),a (ln (v (L T4) 6))] 1225
 (.call f_spec_l40Rd_pick [a (pr (v (L U) 4) (s (v (P (L U) I) 1226))),a (ln (v (L T4) 6))] 1737
 (.join
 (.call f_spec_l20One [a (v I 3)] 1993
 (.ite (v B 1993)
 (.jump 0 [a (v I 0),a (v I 1),a (v I 2),a (v I 3),a (v (L U) 4),a (s (v (P (L U) I) 1738)),a (v (L T4) 6),a (v I 3),a (c 0),a (sub (sub (ln (v (L T4) 6)) (c 1)) (mul (v I 969) (v I 1225))),a (sub (sub (ln (v (L T4) 6)) (c 1)) (mul (v I 969) (v I 1225)))])
 (.jump 0 [a (v I 0),a (v I 1),a (v I 2),a (v I 3),a (v (L U) 4),a (s (v (P (L U) I) 1738)),a (v (L T4) 6),a (v I 3),a (c 0),a (sub (sub (ln (v (L T4) 6)) (c 1)) (mul (v I 969) (v I 1225))),a (v I 1737)])))
 (.ite (ge (v I 3) (c 5))
 (.jump 0 [a (v I 0),a (sub (v I 1) (c 1)),a (v I 2),a (v (L U) 4),a (v I 5),a (v (L T4) 6),a (v I 7),a (v I 8),a (v I 9),a (v I 10)])
 (.jump 0 [a (v I 0),a (v I 1),a (v I 2),a (v (L U) 4),a (v I 5),a (v (L T4) 6),a (v I 7),a (v I 8),a (v I 9),a (v I 10)]))))))))
 (.guard (le (ln (v (L T4) 5)) (c 549755813888))
 (.guard (le (ln (one (pr (v I 6) (pr (v I 7) (pr (v I 8) (v I 9)))))) (c 549755813888))
 (.jump 0 [a (v I 0),a (v I 1),a (sub (v I 2) (c 1)),a (v (L U) 3),a (v I 4),a (app (v (L T4) 5) (one (pr (v I 6) (pr (v I 7) (pr (v I 8) (v I 9))))))]))))))
 (.ret [a (v (L T4) 5),a (pr (v (L U) 3) (v I 4))])))
def tr_spec_l20Any:Tr:=.call f_spec_l20Draw [a (pr (f (v (P (L U) I) 0)) (s (v (P (L U) I) 0))),a (v I 1),a (v I 2)] 100256
 (.join
 (.call f_spec_l40Rd_pick [a (pr (f (v (P (L U) I) 0)) (s (v (P (L U) I) 100257))),a (c 14)] 100448
 (.ite (eq (v I 100448) (c 0))
 (.call f_spec_l40Rd_pick [a (pr (f (v (P (L U) I) 0)) (s (v (P (L U) I) 100449))),a (ln (v (L T4) 100256))] 100768
 (.guard (le (c 0) (v I 100768))
 (.guard (lt (v I 100768) (ln (v (L T4) 100256)))
 (.call f_spec_l40Rd_pick [a (pr (f (v (P (L U) I) 0)) (s (v (P (L U) I) 100769))),a (c 4)] 101344
 (.join
 (.ite (eq (v I 101344) (c 0))
 (.call f_spec_l40Rd_num [a (pr (f (v (P (L U) I) 0)) (s (v (P (L U) I) 101345))),a (app (one (c (-1))) (app (one (c 8)) (app (one (c 2)) (one (c 6)))))] 101728
 (.jump 0 [a (v I 100768),a (f (v (P (L U) I) 0)),a (s (v (P (L U) I) 101729)),a (v (L T4) 100256),a (v I 101728),a (f (s (ix (v (L T4) 100256) (v I 100768)))),a (f (s (s (ix (v (L T4) 100256) (v I 100768))))),a (s (s (s (ix (v (L T4) 100256) (v I 100768)))))]))
 (.ite (eq (v I 101344) (c 1))
 (.call f_spec_l40Rd_num [a (pr (f (v (P (L U) I) 0)) (s (v (P (L U) I) 101345))),a (app (one (v I 1)) (app (one (c (-1))) (one (c 1))))] 101920
 (.jump 0 [a (v I 100768),a (f (v (P (L U) I) 0)),a (s (v (P (L U) I) 101921)),a (v (L T4) 100256),a (f (ix (v (L T4) 100256) (v I 100768))),a (v I 101920),a (f (s (s (ix (v (L T4) 100256) (v I 100768))))),a (s (s (s (ix (v (L T4) 100256) (v I 100768)))))]))
 (.ite (eq (v I 101344) (c 2))
 (.call f_spec_l40Rd_num [a (pr (f (v (P (L U) I) 0)) (s (v (P (L U) I) 101345))),a (app (one (v I 100768)) (one (c (-1))))] 102048
 (.jump 0 [a (v I 100768),a (f (v (P (L U) I) 0)),a (s (v (P (L U) I) 102049)),a (v (L T4) 100256),a (f (ix (v (L T4) 100256) (v I 100768))),a (f (s (ix (v (L T4) 100256) (v I 100768)))),a (v I 102048),a (s (s (s (ix (v (L T4) 100256) (v I 100768)))))]))
 (.call f_spec_l40Rd_num [a (pr (f (v (P (L U) I) 0)) (s (v (P (L U) I) 101345))),a (app (one (v I 100768)) (app (one (c (-1))) (one (c 0))))] 102048
 (.jump 0 [a (v I 100768),a (f (v (P (L U) I) 0)),a (s (v (P (L U) I) 102049)),a (v (L T4) 100256),a (f (ix (v (L T4) 100256) (v I 100768))),a (f (s (ix (v (L T4) 100256) (v I 100768)))),a (f (s (s (ix (v (L T4) 100256) (v I 100768))))),a (v I 102048)])))))
 (.guard (le (c 0) (v I 0))
 (.guard (lt (v I 0) (ln (v (L T4) 3)))
 (.jump 0 [a (v (L U) 1),a (v I 2),a (st (v (L T4) 3) (v I 0) (pr (v I 4) (pr (v I 5) (pr (v I 6) (v I 7)))))]))))))))
 (.jump 0 [a (f (v (P (L U) I) 0)),a (s (v (P (L U) I) 100449)),a (v (L T4) 100256)])))
 (.ret [a (v (L T4) 2),a (pr (v (L U) 0) (v I 1))]))
def tr_spec_DrawHoldsOnRun:Tr:=.call f_spec_l3Laced [a (v (L U) 0)] 100384
 (.call f_spec_l20Asked [a (pr (f (v (P (L U) I) 100384)) (s (v (P (L U) I) 100384))),a (v (L V3) 100385),a (v (L TR) 100386)] 101216
 (.call f_spec_l20Any [a (pr (f (v (P (L U) I) 100384)) (s (v (P (L U) I) 101217))),a (ln (v (L (L T4)) 101216)),a (c 4)] 101792
 (.join
 (.jump 0 [a (v (L (L I)) 100387),a (v (L (L I)) 100388),a (v (L V3) 100385),a (v (L TR) 100386),a (v (L (L T4)) 101216),a (v (L T4) 101792)])
 (.ret [a (v (L V3) 2),a (v (L TR) 3),a (v (L (L T4)) 4),a (v (L T4) 5),a (v (L (L I)) 0),a (v (L (L I)) 1)]))))
def tr_impl_factsOk:Tr:=.call f_impl_SystemValid [a (v (L V3) 0),a (v (L TR) 1)] 100192
 (.ite (v B 100192)
 (.ite (le (ln (v (L (L T4)) 2)) (c 4))
 (.loop [a (v (L (L T4)) 2),a (ln (v (L (L T4)) 2)),a (c 0),a (v (L V3) 0),a (v (L TR) 1)]
 (.ite (lt (v I 2) (v I 1))
 (.guard (le (c 0) (v I 2))
 (.guard (lt (v I 2) (ln (v (L (L T4)) 0)))
 (.call f_impl_kindOf [a (ix (v (L (L T4)) 0) (v I 2)),a (ln (v (L V3) 3))] 902
 (.ite (ne (v I 902) (c 2))
 (.ret [a (nt (ge (v I 2) (c 0)))])
 (.jump 0 [a (v (L (L T4)) 0),a (v I 1),a (add (v I 2) (c 1)),a (v (L V3) 3),a (v (L TR) 4)])))))
 (.ret [a (nt (ge (c (-1)) (c 0)))])))
 (.ret [a (k false)]))
 (.ret [a (k false)]))
def tr_impl_lassoOk:Tr:=.ite (gt (ln (v (L (L I)) 1)) (c 0))
 (.ret [a (le (add (ln (v (L (L I)) 0)) (ln (v (L (L I)) 1))) (c 500))])
 (.ret [a (k false)])
def tr_slices_Concat_SSint_Sint:Tr:=.loop [a (v (L (L (L I))) 0),a (c 0),a (v (L (L (L I))) 0),a (ln (v (L (L (L I))) 0)),a (c 0)]
 (.ite (lt (v I 4) (v I 3))
 (.guard (le (c 0) (v I 4))
 (.guard (lt (v I 4) (ln (v (L (L (L I))) 2)))
 (.ite (lt (add (v I 1) (ln (ix (v (L (L (L I))) 2) (v I 4)))) (c 0))
 (.bad)
 (.jump 0 [a (v (L (L (L I))) 0),a (add (v I 1) (ln (ix (v (L (L (L I))) 2) (v I 4)))),a (v (L (L (L I))) 2),a (v I 3),a (add (v I 4) (c 1))]))))
 (.guard (le (c 0) (v I 1))
 (.guard (le (v I 1) (c 549755813888))
 (.loop [a (v (L (L (L I))) 0),a (ln (v (L (L (L I))) 0)),a (c 0),a (nl (L I))]
 (.ite (lt (v I 2) (v I 1))
 (.guard (le (c 0) (v I 2))
 (.guard (lt (v I 2) (ln (v (L (L (L I))) 0)))
 (.guard (le (ln (v (L (L I)) 3)) (c 549755813888))
 (.guard (le (ln (ix (v (L (L (L I))) 0) (v I 2))) (c 549755813888))
 (.jump 0 [a (v (L (L (L I))) 0),a (v I 1),a (add (v I 2) (c 1)),a (app (v (L (L I)) 3) (ix (v (L (L (L I))) 0) (v I 2)))])))))
 (.ret [a (v (L (L I)) 3)]))))))
def tr_impl_usableIn:Tr:=.loop [a (v (L I) 2),a (ln (v (L TR) 1)),a (c 0),a (v (L V3) 0),a (v (L TR) 1),a (nl I)]
 (.ite (lt (v I 2) (v I 1))
 (.join
 (.call f_impl_use [a (v (L V3) 3),a (v (L TR) 4),a (v (L I) 0),a (v I 2)] 392
 (.ite (v B 393)
 (.guard (le (ln (v (L I) 5)) (c 549755813888))
 (.guard (le (ln (one (v I 2))) (c 549755813888))
 (.jump 0 [a (v (L I) 0),a (v I 1),a (v I 2),a (v (L V3) 3),a (v (L TR) 4),a (app (v (L I) 5) (one (v I 2)))])))
 (.jump 0 [a (v (L I) 0),a (v I 1),a (v I 2),a (v (L V3) 3),a (v (L TR) 4),a (v (L I) 5)])))
 (.jump 0 [a (v (L I) 0),a (v I 1),a (add (v I 2) (c 1)),a (v (L V3) 3),a (v (L TR) 4),a (v (L I) 5)]))
 (.call f_impl_clone_int [a (v (L I) 5)] 136
 (.ret [a (v (L I) 136)])))
def tr_impl_follows:Tr:=.call f_impl_usableIn [a (v (L V3) 0),a (v (L TR) 1),a (v (L I) 2)] 100256
 (.ite (eq (ln (v (L I) 100256)) (c 0))
 (.call f_slices_Equal_Sint_int [a (v (L I) 2),a (v (L I) 3)] 100576
 (.ret [a (v B 100576)]))
 (.call f_impl_ruleBetween [a (v (L V3) 0),a (v (L TR) 1),a (v (L I) 2),a (v (L I) 3)] 100640
 (.ret [a (ge (v I 100640) (c 0))])))
def tr_impl_LassoValid:Tr:=.call f_impl_SystemValid [a (v (L V3) 0),a (v (L TR) 1)] 100192
 (.ite (nt (v B 100192))
 (.ret [a (k false)])
 (.call f_impl_lassoOk [a (v (L (L I)) 2),a (v (L (L I)) 3)] 100512
 (.ite (nt (v B 100512))
 (.ret [a (k false)])
 (.guard (le (c 1) (ln (re false (v (L (L I)) 3))))
 (.call f_slices_Concat_SSint_Sint [a (app (one (v (L (L I)) 2)) (app (one (v (L (L I)) 3)) (one (take (re false (v (L (L I)) 3)) (c 1)))))] 101024
 (.loop [a (ln (v (L (L I)) 101024)),a (c 0),a (v (L V3) 0),a (v (L TR) 1),a (v (L (L I)) 101024)]
 (.ite (lt (v I 1) (v I 0))
 (.join
 (.guard (le (c 0) (v I 1))
 (.guard (lt (v I 1) (ln (v (L (L I)) 4)))
 (.call f_impl_inRange [a (v (L V3) 2),a (v (L TR) 3),a (ix (v (L (L I)) 4) (v I 1))] 519
 (.ite (nt (v B 519))
 (.ret [a (k false)])
 (.ite (eq (v I 1) (c 0))
 (.call f_impl_first [a (v (L V3) 2),a (v (L TR) 3)] 1031
 (.call f_slices_Equal_Sint_int [a (ix (v (L (L I)) 4) (v I 1)),a (v (L I) 1031)] 1095
 (.ite (nt (v B 1095))
 (.ret [a (k false)])
 (.ite (gt (v I 1) (c 0))
 (.guard (le (c 0) (sub (v I 1) (c 1)))
 (.guard (lt (sub (v I 1) (c 1)) (ln (v (L (L I)) 4)))
 (.call f_impl_follows [a (v (L V3) 2),a (v (L TR) 3),a (ix (v (L (L I)) 4) (sub (v I 1) (c 1))),a (ix (v (L (L I)) 4) (v I 1))] 2055
 (.ite (nt (v B 2055))
 (.ret [a (k false)])
 (.jump 0 [a (v I 0),a (v I 1),a (v (L V3) 2),a (v (L TR) 3),a (v (L (L I)) 4)])))))
 (.jump 0 [a (v I 0),a (v I 1),a (v (L V3) 2),a (v (L TR) 3),a (v (L (L I)) 4)])))))
 (.ite (gt (v I 1) (c 0))
 (.guard (le (c 0) (sub (v I 1) (c 1)))
 (.guard (lt (sub (v I 1) (c 1)) (ln (v (L (L I)) 4)))
 (.call f_impl_follows [a (v (L V3) 2),a (v (L TR) 3),a (ix (v (L (L I)) 4) (sub (v I 1) (c 1))),a (ix (v (L (L I)) 4) (v I 1))] 2055
 (.ite (nt (v B 2055))
 (.ret [a (k false)])
 (.jump 0 [a (v I 0),a (v I 1),a (v (L V3) 2),a (v (L TR) 3),a (v (L (L I)) 4)])))))
 (.jump 0 [a (v I 0),a (v I 1),a (v (L V3) 2),a (v (L TR) 3),a (v (L (L I)) 4)])))))))
 (.jump 0 [a (v I 0),a (add (v I 1) (c 1)),a (v (L V3) 2),a (v (L TR) 3),a (v (L (L I)) 4)]))
 (.ret [a (k true)]))))))))
def tr_impl_TimesValid:Tr:=.call f_impl_in [a (v I 1),a (c 0),a (c 4)] 100128
 (.ite (nt (v B 100128))
 (.ret [a (k false)])
 (.call f_impl_in [a (ln (v (L T4) 0)),a (c 1),a (c 24)] 100448
 (.ite (nt (v B 100448))
 (.ret [a (k false)])
 (.loop [a (v I 1),a (v (L T4) 0),a (ln (v (L T4) 0)),a (c 0)]
 (.ite (lt (v I 3) (v I 2))
 (.guard (le (c 0) (v I 3))
 (.guard (lt (v I 3) (ln (v (L T4) 1)))
 (.call f_impl_in [a (f (ix (v (L T4) 1) (v I 3))),a (c 0),a (c 7)] 580
 (.join
 (.ite (eq (f (ix (v (L T4) 1) (v I 3))) (c 0))
 (.jump 0 [a (v I 0),a (.o2 .and (eq (f (ix (v (L T4) 1) (v I 3))) (c 0)) (.o2 .and (eq (f (s (ix (v (L T4) 1) (v I 3)))) (c 0)) (.o2 .and (eq (f (s (s (ix (v (L T4) 1) (v I 3))))) (c 0)) (eq (s (s (s (ix (v (L T4) 1) (v I 3))))) (c 0))))),a (v (L T4) 1),a (v I 2),a (v I 3)])
 (.ite (eq (f (ix (v (L T4) 1) (v I 3))) (c 1))
 (.call f_impl_in [a (f (s (ix (v (L T4) 1) (v I 3)))),a (c 0),a (sub (v I 0) (c 1))] 1348
 (.ite (v B 1348)
 (.ite (eq (f (s (s (ix (v (L T4) 1) (v I 3))))) (c 0))
 (.jump 0 [a (v I 0),a (eq (s (s (s (ix (v (L T4) 1) (v I 3))))) (c 0)),a (v (L T4) 1),a (v I 2),a (v I 3)])
 (.jump 0 [a (v I 0),a (k false),a (v (L T4) 1),a (v I 2),a (v I 3)]))
 (.jump 0 [a (v I 0),a (k false),a (v (L T4) 1),a (v I 2),a (v I 3)])))
 (.ite (v B 580)
 (.ite (eq (f (s (ix (v (L T4) 1) (v I 3)))) (c 0))
 (.call f_impl_in [a (f (s (s (ix (v (L T4) 1) (v I 3))))),a (c 0),a (sub (v I 3) (c 1))] 1796
 (.ite (v B 1796)
 (.call f_impl_in [a (s (s (s (ix (v (L T4) 1) (v I 3))))),a (c 0),a (sub (v I 3) (c 1))] 2244
 (.ite (v B 2244)
 (.ite (eq (f (s (s (ix (v (L T4) 1) (v I 3))))) (s (s (s (ix (v (L T4) 1) (v I 3))))))
 (.jump 0 [a (v I 0),a (k true),a (v (L T4) 1),a (v I 2),a (v I 3)])
 (.ite (ne (f (ix (v (L T4) 1) (v I 3))) (c 2))
 (.jump 0 [a (v I 0),a (ne (f (ix (v (L T4) 1) (v I 3))) (c 5)),a (v (L T4) 1),a (v I 2),a (v I 3)])
 (.jump 0 [a (v I 0),a (k false),a (v (L T4) 1),a (v I 2),a (v I 3)])))
 (.jump 0 [a (v I 0),a (k false),a (v (L T4) 1),a (v I 2),a (v I 3)])))
 (.jump 0 [a (v I 0),a (k false),a (v (L T4) 1),a (v I 2),a (v I 3)])))
 (.jump 0 [a (v I 0),a (k false),a (v (L T4) 1),a (v I 2),a (v I 3)]))
 (.jump 0 [a (v I 0),a (k false),a (v (L T4) 1),a (v I 2),a (v I 3)]))))
 (.ite (nt (v B 1))
 (.ret [a (k false)])
 (.jump 0 [a (v I 0),a (v (L T4) 2),a (v I 3),a (add (v I 4) (c 1))]))))))
 (.ret [a (k true)]))))))
def tr_impl_letters:Tr:=.guard (le (c 0) (ln (v (L (L T4)) 0)))
 (.guard (le (ln (v (L (L T4)) 0)) (c 549755813888))
 (.loop [a (v (L I) 1),a (v (L (L T4)) 0),a (ln (v (L (L T4)) 0)),a (c 0),a (rep (ln (v (L (L T4)) 0)) (z I))]
 (.ite (lt (v I 3) (v I 2))
 (.guard (le (c 0) (v I 3))
 (.guard (lt (v I 3) (ln (v (L (L T4)) 1)))
 (.call f_impl_eval [a (ix (v (L (L T4)) 1) (v I 3)),a (v (L I) 0)] 646
 (.guard (le (c 0) (v I 3))
 (.guard (lt (v I 3) (ln (v (L I) 4)))
 (.jump 0 [a (v (L I) 0),a (v (L (L T4)) 1),a (v I 2),a (add (v I 3) (c 1)),a (st (v (L I) 4) (v I 3) (v I 646))]))))))
 (.ret [a (v (L I) 4)]))))
def tr_impl_word:Tr:=.loop [a (v (L (L T4)) 0),a (v (L (L I)) 1),a (ln (v (L (L I)) 1)),a (c 0),a (nl (L I))]
 (.ite (lt (v I 3) (v I 2))
 (.guard (le (c 0) (v I 3))
 (.guard (lt (v I 3) (ln (v (L (L I)) 1)))
 (.call f_impl_letters [a (v (L (L T4)) 0),a (ix (v (L (L I)) 1) (v I 3))] 454
 (.guard (le (ln (v (L (L I)) 4)) (c 549755813888))
 (.guard (le (ln (one (v (L I) 454))) (c 549755813888))
 (.jump 0 [a (v (L (L T4)) 0),a (v (L (L I)) 1),a (v I 2),a (add (v I 3) (c 1)),a (app (v (L (L I)) 4) (one (v (L I) 454)))]))))))
 (.ret [a (v (L (L I)) 4)]))
def tr_impl_timesOn:Tr:=.call f_slices_Concat_SSint_Sint [a (app (one (v (L (L I)) 1)) (one (v (L (L I)) 2)))] 100320
 (.guard (le (c 0) (ln (v (L T4) 0)))
 (.guard (le (ln (v (L T4) 0)) (c 549755813888))
 (.loop [a (v (L T4) 0),a (ln (v (L T4) 0)),a (c 0),a (v (L (L I)) 100320),a (ln (v (L (L I)) 100320)),a (v (L (L I)) 1),a (rep (ln (v (L T4) 0)) (z (L I)))]
 (.ite (lt (v I 2) (v I 1))
 (.guard (le (c 0) (v I 2))
 (.guard (lt (v I 2) (ln (v (L T4) 0)))
 (.guard (le (c 0) (v I 4))
 (.guard (le (v I 4) (c 549755813888))
 (.join
 (.ite (eq (f (ix (v (L T4) 0) (v I 2))) (c 7))
 (.jump 0 [a (v I 2),a (c 1),a (v (L T4) 0),a (v I 1),a (v I 2),a (v (L (L I)) 3),a (v I 4),a (v (L (L I)) 5),a (v (L (L I)) 6),a (rep (v I 4) (z I)),a (f (ix (v (L T4) 0) (v I 2))),a (f (s (ix (v (L T4) 0) (v I 2)))),a (f (s (s (ix (v (L T4) 0) (v I 2))))),a (s (s (s (ix (v (L T4) 0) (v I 2)))))])
 (.jump 0 [a (v I 2),a (c 0),a (v (L T4) 0),a (v I 1),a (v I 2),a (v (L (L I)) 3),a (v I 4),a (v (L (L I)) 5),a (v (L (L I)) 6),a (rep (v I 4) (z I)),a (f (ix (v (L T4) 0) (v I 2))),a (f (s (ix (v (L T4) 0) (v I 2)))),a (f (s (s (ix (v (L T4) 0) (v I 2))))),a (s (s (s (ix (v (L T4) 0) (v I 2)))))]))
 (.loop [a (v I 0),a (v I 1),a (v (L T4) 2),a (v I 3),a (v I 4),a (ln (v (L I) 9)),a (c 0),a (v (L (L I)) 5),a (v I 6),a (v (L (L I)) 7),a (v (L (L I)) 8),a (v (L I) 9),a (v I 10),a (v I 11),a (v I 12),a (v I 13)]
 (.ite (lt (v I 6) (v I 5))
 (.guard (le (c 0) (v I 6))
 (.guard (lt (v I 6) (ln (v (L I) 11)))
 (.jump 0 [a (v I 0),a (v I 1),a (v (L T4) 2),a (v I 3),a (v I 4),a (v I 5),a (add (v I 6) (c 1)),a (v (L (L I)) 7),a (v I 8),a (v (L (L I)) 9),a (v (L (L I)) 10),a (st (v (L I) 11) (v I 6) (v I 1)),a (v I 12),a (v I 13),a (v I 14),a (v I 15)])))
 (.loop [a (v I 0),a (v (L T4) 2),a (v I 3),a (v I 4),a (c 0),a (v (L (L I)) 7),a (v I 8),a (v (L (L I)) 9),a (v (L (L I)) 10),a (v (L I) 11),a (v I 12),a (v I 13),a (v I 14),a (v I 15)]
 (.ite (lt (v I 4) (c 2))
 (.loop [a (v I 0),a (sub (v I 6) (c 1)),a (v (L T4) 1),a (v I 2),a (v I 3),a (v I 4),a (v (L (L I)) 5),a (v I 6),a (v (L (L I)) 7),a (v (L (L I)) 8),a (v (L I) 9),a (v I 10),a (v I 11),a (v I 12),a (v I 13)]
 (.ite (ge (v I 1) (c 0))
 (.join
 (.join
 (.ite (gt (v I 11) (c 1))
 (.guard (le (c 0) (v I 13))
 (.guard (lt (v I 13) (ln (v (L (L I)) 9)))
 (.guard (le (c 0) (v I 1))
 (.guard (lt (v I 1) (ln (ix (v (L (L I)) 9) (v I 13))))
 (.guard (le (c 0) (v I 14))
 (.guard (lt (v I 14) (ln (v (L (L I)) 9)))
 (.guard (le (c 0) (v I 1))
 (.guard (lt (v I 1) (ln (ix (v (L (L I)) 9) (v I 14))))
 (.jump 0 [a (v I 1),a (ix (ix (v (L (L I)) 9) (v I 13)) (v I 1)),a (ix (ix (v (L (L I)) 9) (v I 14)) (v I 1)),a (v I 0),a (v I 1),a (v (L T4) 2),a (v I 3),a (v I 4),a (v I 5),a (v I 1),a (v I 11),a (v I 12),a (v I 13),a (v I 14),a (v (L (L I)) 9),a (v (L (L I)) 6),a (v I 7),a (v (L (L I)) 8),a (v (L I) 10)])))))))))
 (.jump 0 [a (v I 1),a (c 0),a (c 0),a (v I 0),a (v I 1),a (v (L T4) 2),a (v I 3),a (v I 4),a (v I 5),a (v I 1),a (v I 11),a (v I 12),a (v I 13),a (v I 14),a (v (L (L I)) 9),a (v (L (L I)) 6),a (v I 7),a (v (L (L I)) 8),a (v (L I) 10)]))
 (.ite (eq (v I 10) (c 0))
 (.guard (le (c 0) (v I 9))
 (.guard (lt (v I 9) (ln (v (L I) 18)))
 (.join
 (.jump 0 [a (v I 3),a (v I 4),a (v (L T4) 5),a (v I 6),a (v I 7),a (v I 8),a (v (L (L I)) 15),a (v I 16),a (v (L (L I)) 17),a (v (L (L I)) 14),a (st (v (L I) 18) (v I 9) (c 1)),a (v I 10),a (v I 11),a (v I 12),a (v I 13)])
 (.jump 0 [a (v I 0),a (v I 1),a (v (L T4) 2),a (v I 3),a (v I 4),a (v I 5),a (v (L (L I)) 6),a (v I 7),a (v (L (L I)) 8),a (v (L (L I)) 9),a (v (L I) 10),a (v I 11),a (v I 12),a (v I 13),a (v I 14)]))))
 (.ite (eq (v I 10) (c 1))
 (.guard (le (c 0) (v I 0))
 (.guard (lt (v I 0) (ln (v (L (L I)) 15)))
 (.guard (le (c 0) (v I 11))
 (.guard (lt (v I 11) (ln (ix (v (L (L I)) 15) (v I 0))))
 (.guard (le (c 0) (v I 9))
 (.guard (lt (v I 9) (ln (v (L I) 18)))
 (.join
 (.jump 0 [a (v I 3),a (v I 4),a (v (L T4) 5),a (v I 6),a (v I 7),a (v I 8),a (v (L (L I)) 15),a (v I 16),a (v (L (L I)) 17),a (v (L (L I)) 14),a (st (v (L I) 18) (v I 9) (ix (ix (v (L (L I)) 15) (v I 0)) (v I 11))),a (v I 10),a (v I 11),a (v I 12),a (v I 13)])
 (.jump 0 [a (v I 0),a (v I 1),a (v (L T4) 2),a (v I 3),a (v I 4),a (v I 5),a (v (L (L I)) 6),a (v I 7),a (v (L (L I)) 8),a (v (L (L I)) 9),a (v (L I) 10),a (v I 11),a (v I 12),a (v I 13),a (v I 14)]))))))))
 (.ite (eq (v I 10) (c 2))
 (.guard (le (c 0) (v I 9))
 (.guard (lt (v I 9) (ln (v (L I) 18)))
 (.join
 (.jump 0 [a (v I 3),a (v I 4),a (v (L T4) 5),a (v I 6),a (v I 7),a (v I 8),a (v (L (L I)) 15),a (v I 16),a (v (L (L I)) 17),a (v (L (L I)) 14),a (st (v (L I) 18) (v I 9) (sub (c 1) (v I 1))),a (v I 10),a (v I 11),a (v I 12),a (v I 13)])
 (.jump 0 [a (v I 0),a (v I 1),a (v (L T4) 2),a (v I 3),a (v I 4),a (v I 5),a (v (L (L I)) 6),a (v I 7),a (v (L (L I)) 8),a (v (L (L I)) 9),a (v (L I) 10),a (v I 11),a (v I 12),a (v I 13),a (v I 14)]))))
 (.ite (eq (v I 10) (c 3))
 (.guard (le (c 0) (v I 9))
 (.guard (lt (v I 9) (ln (v (L I) 18)))
 (.join
 (.jump 0 [a (v I 3),a (v I 4),a (v (L T4) 5),a (v I 6),a (v I 7),a (v I 8),a (v (L (L I)) 15),a (v I 16),a (v (L (L I)) 17),a (v (L (L I)) 14),a (st (v (L I) 18) (v I 9) (ar .and (v I 1) (v I 2))),a (v I 10),a (v I 11),a (v I 12),a (v I 13)])
 (.jump 0 [a (v I 0),a (v I 1),a (v (L T4) 2),a (v I 3),a (v I 4),a (v I 5),a (v (L (L I)) 6),a (v I 7),a (v (L (L I)) 8),a (v (L (L I)) 9),a (v (L I) 10),a (v I 11),a (v I 12),a (v I 13),a (v I 14)]))))
 (.ite (eq (v I 10) (c 4))
 (.guard (le (c 0) (v I 9))
 (.guard (lt (v I 9) (ln (v (L I) 18)))
 (.join
 (.jump 0 [a (v I 3),a (v I 4),a (v (L T4) 5),a (v I 6),a (v I 7),a (v I 8),a (v (L (L I)) 15),a (v I 16),a (v (L (L I)) 17),a (v (L (L I)) 14),a (st (v (L I) 18) (v I 9) (ar .or (v I 1) (v I 2))),a (v I 10),a (v I 11),a (v I 12),a (v I 13)])
 (.jump 0 [a (v I 0),a (v I 1),a (v (L T4) 2),a (v I 3),a (v I 4),a (v I 5),a (v (L (L I)) 6),a (v I 7),a (v (L (L I)) 8),a (v (L (L I)) 9),a (v (L I) 10),a (v I 11),a (v I 12),a (v I 13),a (v I 14)]))))
 (.ite (eq (v I 10) (c 5))
 (.guard (le (c 0) (v I 12))
 (.guard (lt (v I 12) (ln (v (L (L I)) 14)))
 (.ite (eq (add (v I 0) (c 1)) (v I 16))
 (.guard (le (c 0) (ln (v (L (L I)) 17)))
 (.guard (lt (ln (v (L (L I)) 17)) (ln (ix (v (L (L I)) 14) (v I 12))))
 (.join
 (.jump 0 [a (ix (ix (v (L (L I)) 14) (v I 12)) (ln (v (L (L I)) 17))),a (v I 3),a (v I 4),a (v (L T4) 5),a (v I 6),a (v I 7),a (v I 8),a (v I 9),a (v (L (L I)) 15),a (v I 16),a (v (L (L I)) 17),a (v (L (L I)) 14),a (v (L I) 18),a (v I 10),a (v I 11),a (v I 12),a (v I 13)])
 (.guard (le (c 0) (v I 7))
 (.guard (lt (v I 7) (ln (v (L I) 12)))
 (.join
 (.jump 0 [a (v I 1),a (v I 2),a (v (L T4) 3),a (v I 4),a (v I 5),a (v I 6),a (v (L (L I)) 8),a (v I 9),a (v (L (L I)) 10),a (v (L (L I)) 11),a (st (v (L I) 12) (v I 7) (v I 0)),a (v I 13),a (v I 14),a (v I 15),a (v I 16)])
 (.jump 0 [a (v I 0),a (v I 1),a (v (L T4) 2),a (v I 3),a (v I 4),a (v I 5),a (v (L (L I)) 6),a (v I 7),a (v (L (L I)) 8),a (v (L (L I)) 9),a (v (L I) 10),a (v I 11),a (v I 12),a (v I 13),a (v I 14)])))))))
 (.guard (le (c 0) (add (v I 0) (c 1)))
 (.guard (lt (add (v I 0) (c 1)) (ln (ix (v (L (L I)) 14) (v I 12))))
 (.join
 (.jump 0 [a (ix (ix (v (L (L I)) 14) (v I 12)) (add (v I 0) (c 1))),a (v I 3),a (v I 4),a (v (L T4) 5),a (v I 6),a (v I 7),a (v I 8),a (v I 9),a (v (L (L I)) 15),a (v I 16),a (v (L (L I)) 17),a (v (L (L I)) 14),a (v (L I) 18),a (v I 10),a (v I 11),a (v I 12),a (v I 13)])
 (.guard (le (c 0) (v I 7))
 (.guard (lt (v I 7) (ln (v (L I) 12)))
 (.join
 (.jump 0 [a (v I 1),a (v I 2),a (v (L T4) 3),a (v I 4),a (v I 5),a (v I 6),a (v (L (L I)) 8),a (v I 9),a (v (L (L I)) 10),a (v (L (L I)) 11),a (st (v (L I) 12) (v I 7) (v I 0)),a (v I 13),a (v I 14),a (v I 15),a (v I 16)])
 (.jump 0 [a (v I 0),a (v I 1),a (v (L T4) 2),a (v I 3),a (v I 4),a (v I 5),a (v (L (L I)) 6),a (v I 7),a (v (L (L I)) 8),a (v (L (L I)) 9),a (v (L I) 10),a (v I 11),a (v I 12),a (v I 13),a (v I 14)]))))))))))
 (.ite (eq (v I 10) (c 6))
 (.ite (eq (add (v I 0) (c 1)) (v I 16))
 (.guard (le (c 0) (ln (v (L (L I)) 17)))
 (.guard (lt (ln (v (L (L I)) 17)) (ln (v (L I) 18)))
 (.join
 (.jump 0 [a (ar .or (v I 2) (ar .and (v I 1) (ix (v (L I) 18) (ln (v (L (L I)) 17))))),a (v I 3),a (v I 4),a (v (L T4) 5),a (v I 6),a (v I 7),a (v I 8),a (v I 9),a (v (L (L I)) 15),a (v I 16),a (v (L (L I)) 17),a (v (L (L I)) 14),a (v (L I) 18),a (v I 10),a (v I 11),a (v I 12),a (v I 13)])
 (.guard (le (c 0) (v I 7))
 (.guard (lt (v I 7) (ln (v (L I) 12)))
 (.join
 (.jump 0 [a (v I 1),a (v I 2),a (v (L T4) 3),a (v I 4),a (v I 5),a (v I 6),a (v (L (L I)) 8),a (v I 9),a (v (L (L I)) 10),a (v (L (L I)) 11),a (st (v (L I) 12) (v I 7) (v I 0)),a (v I 13),a (v I 14),a (v I 15),a (v I 16)])
 (.jump 0 [a (v I 0),a (v I 1),a (v (L T4) 2),a (v I 3),a (v I 4),a (v I 5),a (v (L (L I)) 6),a (v I 7),a (v (L (L I)) 8),a (v (L (L I)) 9),a (v (L I) 10),a (v I 11),a (v I 12),a (v I 13),a (v I 14)])))))))
 (.guard (le (c 0) (add (v I 0) (c 1)))
 (.guard (lt (add (v I 0) (c 1)) (ln (v (L I) 18)))
 (.join
 (.jump 0 [a (ar .or (v I 2) (ar .and (v I 1) (ix (v (L I) 18) (add (v I 0) (c 1))))),a (v I 3),a (v I 4),a (v (L T4) 5),a (v I 6),a (v I 7),a (v I 8),a (v I 9),a (v (L (L I)) 15),a (v I 16),a (v (L (L I)) 17),a (v (L (L I)) 14),a (v (L I) 18),a (v I 10),a (v I 11),a (v I 12),a (v I 13)])
 (.guard (le (c 0) (v I 7))
 (.guard (lt (v I 7) (ln (v (L I) 12)))
 (.join
 (.jump 0 [a (v I 1),a (v I 2),a (v (L T4) 3),a (v I 4),a (v I 5),a (v I 6),a (v (L (L I)) 8),a (v I 9),a (v (L (L I)) 10),a (v (L (L I)) 11),a (st (v (L I) 12) (v I 7) (v I 0)),a (v I 13),a (v I 14),a (v I 15),a (v I 16)])
 (.jump 0 [a (v I 0),a (v I 1),a (v (L T4) 2),a (v I 3),a (v I 4),a (v I 5),a (v (L (L I)) 6),a (v I 7),a (v (L (L I)) 8),a (v (L (L I)) 9),a (v (L I) 10),a (v I 11),a (v I 12),a (v I 13),a (v I 14)]))))))))
 (.ite (eq (add (v I 0) (c 1)) (v I 16))
 (.guard (le (c 0) (ln (v (L (L I)) 17)))
 (.guard (lt (ln (v (L (L I)) 17)) (ln (v (L I) 18)))
 (.join
 (.jump 0 [a (ar .and (v I 2) (ar .or (v I 1) (ix (v (L I) 18) (ln (v (L (L I)) 17))))),a (v I 3),a (v I 4),a (v (L T4) 5),a (v I 6),a (v I 7),a (v I 8),a (v I 9),a (v (L (L I)) 15),a (v I 16),a (v (L (L I)) 17),a (v (L (L I)) 14),a (v (L I) 18),a (v I 10),a (v I 11),a (v I 12),a (v I 13)])
 (.guard (le (c 0) (v I 7))
 (.guard (lt (v I 7) (ln (v (L I) 12)))
 (.join
 (.jump 0 [a (v I 1),a (v I 2),a (v (L T4) 3),a (v I 4),a (v I 5),a (v I 6),a (v (L (L I)) 8),a (v I 9),a (v (L (L I)) 10),a (v (L (L I)) 11),a (st (v (L I) 12) (v I 7) (v I 0)),a (v I 13),a (v I 14),a (v I 15),a (v I 16)])
 (.jump 0 [a (v I 0),a (v I 1),a (v (L T4) 2),a (v I 3),a (v I 4),a (v I 5),a (v (L (L I)) 6),a (v I 7),a (v (L (L I)) 8),a (v (L (L I)) 9),a (v (L I) 10),a (v I 11),a (v I 12),a (v I 13),a (v I 14)])))))))
 (.guard (le (c 0) (add (v I 0) (c 1)))
 (.guard (lt (add (v I 0) (c 1)) (ln (v (L I) 18)))
 (.join
 (.jump 0 [a (ar .and (v I 2) (ar .or (v I 1) (ix (v (L I) 18) (add (v I 0) (c 1))))),a (v I 3),a (v I 4),a (v (L T4) 5),a (v I 6),a (v I 7),a (v I 8),a (v I 9),a (v (L (L I)) 15),a (v I 16),a (v (L (L I)) 17),a (v (L (L I)) 14),a (v (L I) 18),a (v I 10),a (v I 11),a (v I 12),a (v I 13)])
 (.guard (le (c 0) (v I 7))
 (.guard (lt (v I 7) (ln (v (L I) 12)))
 (.join
 (.jump 0 [a (v I 1),a (v I 2),a (v (L T4) 3),a (v I 4),a (v I 5),a (v I 6),a (v (L (L I)) 8),a (v I 9),a (v (L (L I)) 10),a (v (L (L I)) 11),a (st (v (L I) 12) (v I 7) (v I 0)),a (v I 13),a (v I 14),a (v I 15),a (v I 16)])
 (.jump 0 [a (v I 0),a (v I 1),a (v (L T4) 2),a (v I 3),a (v I 4),a (v I 5),a (v (L (L I)) 6),a (v I 7),a (v (L (L I)) 8),a (v (L (L I)) 9),a (v (L I) 10),a (v I 11),a (v I 12),a (v I 13),a (v I 14)]))))))))))))))))
 (.jump 0 [a (v I 0),a (sub (v I 1) (c 1)),a (v (L T4) 2),a (v I 3),a (v I 4),a (v I 5),a (v (L (L I)) 6),a (v I 7),a (v (L (L I)) 8),a (v (L (L I)) 9),a (v (L I) 10),a (v I 11),a (v I 12),a (v I 13),a (v I 14)]))
 (.jump 1 [a (v I 0),a (v (L T4) 2),a (v I 3),a (v I 4),a (add (v I 5) (c 1)),a (v (L (L I)) 6),a (v I 7),a (v (L (L I)) 8),a (v (L (L I)) 9),a (v (L I) 10),a (v I 11),a (v I 12),a (v I 13),a (v I 14)])))
 (.guard (le (c 0) (v I 0))
 (.guard (lt (v I 0) (ln (v (L (L I)) 8)))
 (.jump 2 [a (v (L T4) 1),a (v I 2),a (add (v I 3) (c 1)),a (v (L (L I)) 5),a (v I 6),a (v (L (L I)) 7),a (st (v (L (L I)) 8) (v I 0) (v (L I) 9))]))))))))))))
 (.ret [a (v (L (L I)) 6)])))))
def tr_impl_HoldsOnRun:Tr:=.call f_impl_factsOk [a (v (L V3) 0),a (v (L TR) 1),a (v (L (L T4)) 2)] 100256
 (.ite (nt (v B 100256))
 (.ret [a (k false)])
 (.call f_impl_LassoValid [a (v (L V3) 0),a (v (L TR) 1),a (v (L (L I)) 4),a (v (L (L I)) 5)] 100640
 (.ite (nt (v B 100640))
 (.ret [a (k false)])
 (.ite (gt (add (ln (v (L (L I)) 4)) (ln (v (L (L I)) 5))) (c 60))
 (.ret [a (k false)])
 (.call f_impl_TimesValid [a (v (L T4) 3),a (ln (v (L (L T4)) 2))] 101600
 (.ite (nt (v B 101600))
 (.ret [a (k false)])
 (.call f_impl_word [a (v (L (L T4)) 2),a (v (L (L I)) 4)] 101984
 (.call f_impl_word [a (v (L (L T4)) 2),a (v (L (L I)) 5)] 102176
 (.call f_impl_timesOn [a (v (L T4) 3),a (v (L (L I)) 101984),a (v (L (L I)) 102176)] 102240
 (.guard (le (c 0) (sub (ln (v (L (L I)) 102240)) (c 1)))
 (.guard (lt (sub (ln (v (L (L I)) 102240)) (c 1)) (ln (v (L (L I)) 102240)))
 (.guard (lt (c 0) (ln (ix (v (L (L I)) 102240) (sub (ln (v (L (L I)) 102240)) (c 1)))))
 (.ret [a (eq (ix (ix (v (L (L I)) 102240) (sub (ln (v (L (L I)) 102240)) (c 1))) (c 0)) (c 1))])))))))))))))
def tr_spec_l20Facts:Tr:=.loop [a (v (L (L T4)) 2),a (c 0),a (v (L V3) 0),a (v (L TR) 1)]
 (.ite (lt (v I 1) (ln (v (L (L T4)) 0)))
 (.guard (le (c 0) (v I 1))
 (.guard (lt (v I 1) (ln (v (L (L T4)) 0)))
 (.call f_spec_l2Is [a (ix (v (L (L T4)) 0) (v I 1)),a (ln (v (L V3) 2)),a (c 2)] 709
 (.ite (nt (v B 709))
 (.ret [a (k false)])
 (.jump 0 [a (v (L (L T4)) 0),a (add (v I 1) (c 1)),a (v (L V3) 2),a (v (L TR) 3)])))))
 (.call f_spec_SystemValid [a (v (L V3) 2),a (v (L TR) 3)] 325
 (.ite (v B 325)
 (.ret [a (le (ln (v (L (L T4)) 0)) (c 4))])
 (.ret [a (k false)]))))
def tr_spec_l3At:Tr:=.ite (lt (v I 2) (ln (v (L (L I)) 0)))
 (.guard (le (c 0) (v I 2))
 (.guard (lt (v I 2) (ln (v (L (L I)) 0)))
 (.ret [a (ix (v (L (L I)) 0) (v I 2))])))
 (.guard (ne (ln (v (L (L I)) 1)) (c 0))
 (.guard (le (c 0) (rem (sub (v I 2) (ln (v (L (L I)) 0))) (ln (v (L (L I)) 1))))
 (.guard (lt (rem (sub (v I 2) (ln (v (L (L I)) 0))) (ln (v (L (L I)) 1))) (ln (v (L (L I)) 1)))
 (.ret [a (ix (v (L (L I)) 1) (rem (sub (v I 2) (ln (v (L (L I)) 0))) (ln (v (L (L I)) 1))))]))))
def tr_spec_l3Follows:Tr:=.call f_spec_l2Next [a (v (L V3) 0),a (v (L TR) 1),a (v (L I) 2)] 100256
 (.ite (eq (ln (v (L (L I)) 100256)) (c 0))
 (.call f_spec_l2Same [a (v (L I) 2),a (v (L I) 3)] 100704
 (.ret [a (v B 100704)]))
 (.loop [a (v (L I) 3),a (c 0),a (v (L (L I)) 100256)]
 (.ite (lt (v I 1) (ln (v (L (L I)) 2)))
 (.guard (le (c 0) (v I 1))
 (.guard (lt (v I 1) (ln (v (L (L I)) 2)))
 (.call f_spec_l2Same [a (ix (v (L (L I)) 2) (v I 1)),a (v (L I) 0)] 580
 (.ite (v B 580)
 (.ret [a (k true)])
 (.jump 0 [a (v (L I) 0),a (add (v I 1) (c 1)),a (v (L (L I)) 2)])))))
 (.ret [a (k false)]))))
def tr_spec_LassoValid:Tr:=.call f_spec_SystemValid [a (v (L V3) 0),a (v (L TR) 1)] 100576
 (.ite (nt (v B 100576))
 (.ret [a (k false)])
 (.ite (eq (ln (v (L (L I)) 3)) (c 0))
 (.ret [a (k false)])
 (.ite (gt (add (ln (v (L (L I)) 2)) (ln (v (L (L I)) 3))) (c 500))
 (.ret [a (k false)])
 (.call f_spec_l3At [a (v (L (L I)) 2),a (v (L (L I)) 3),a (c 0)] 101536
 (.call f_spec_FirstState [a (v (L V3) 0),a (v (L TR) 1)] 101600
 (.call f_spec_l2Same [a (v (L I) 101536),a (v (L I) 101600)] 101664
 (.ite (nt (v B 101664))
 (.ret [a (k false)])
 (.loop [a (v (L (L I)) 2),a (v (L (L I)) 3),a (add (ln (v (L (L I)) 2)) (ln (v (L (L I)) 3))),a (c 0),a (v (L V3) 0),a (v (L TR) 1)]
 (.ite (lt (v I 3) (v I 2))
 (.call f_spec_l3At [a (v (L (L I)) 0),a (v (L (L I)) 1),a (v I 3)] 455
 (.call f_spec_l2In [a (v (L V3) 4),a (v (L TR) 5),a (v (L I) 455)] 519
 (.ite (nt (v B 519))
 (.ret [a (k false)])
 (.call f_spec_l3At [a (v (L (L I)) 0),a (v (L (L I)) 1),a (add (v I 3) (c 1))] 1031
 (.call f_spec_l2In [a (v (L V3) 4),a (v (L TR) 5),a (v (L I) 1031)] 1095
 (.ite (nt (v B 1095))
 (.ret [a (k false)])
 (.call f_spec_l3At [a (v (L (L I)) 0),a (v (L (L I)) 1),a (v I 3)] 1863
 (.call f_spec_l3At [a (v (L (L I)) 0),a (v (L (L I)) 1),a (add (v I 3) (c 1))] 1927
 (.call f_spec_l3Follows [a (v (L V3) 4),a (v (L TR) 5),a (v (L I) 1863),a (v (L I) 1927)] 1991
 (.ite (nt (v B 1991))
 (.ret [a (k false)])
 (.jump 0 [a (v (L (L I)) 0),a (v (L (L I)) 1),a (v I 2),a (add (v I 3) (c 1)),a (v (L V3) 4),a (v (L TR) 5)])))))))))))
 (.ret [a (k true)]))))))))))
def tr_spec_l20Of:Tr:=.loop [a (v (L (L T4)) 0),a (v (L I) 1),a (c 0),a (nl I)]
 (.ite (lt (v I 2) (ln (v (L (L T4)) 0)))
 (.guard (le (c 0) (v I 2))
 (.guard (lt (v I 2) (ln (v (L (L T4)) 0)))
 (.call f_spec_l2Last [a (ix (v (L (L T4)) 0) (v I 2)),a (v (L I) 1)] 645
 (.guard (le (ln (v (L I) 3)) (c 549755813888))
 (.guard (le (ln (one (v I 645))) (c 549755813888))
 (.jump 0 [a (v (L (L T4)) 0),a (v (L I) 1),a (add (v I 2) (c 1)),a (app (v (L I) 3) (one (v I 645)))]))))))
 (.ret [a (v (L I) 3)]))
def tr_spec_l20Step:Tr:=.ite (eq (v I 0) (c 0))
 (.ite (eq (v I 1) (c 0))
 (.ite (eq (v I 2) (c 0))
 (.ret [a (eq (v I 3) (c 0))])
 (.ret [a (k false)]))
 (.ret [a (k false)]))
 (.ite (eq (v I 0) (c 1))
 (.call f_spec_l1In [a (v I 1),a (c 0),a (sub (v I 5) (c 1))] 100768
 (.ite (v B 100768)
 (.ite (eq (v I 2) (c 0))
 (.ret [a (eq (v I 3) (c 0))])
 (.ret [a (k false)]))
 (.ret [a (k false)])))
 (.call f_spec_l1In [a (v I 0),a (c 2),a (c 7)] 100640
 (.ite (nt (v B 100640))
 (.ret [a (k false)])
 (.ite (ne (v I 1) (c 0))
 (.ret [a (k false)])
 (.call f_spec_l1In [a (v I 2),a (c 0),a (sub (v I 4) (c 1))] 101408
 (.ite (nt (v B 101408))
 (.ret [a (k false)])
 (.call f_spec_l1In [a (v I 3),a (c 0),a (sub (v I 4) (c 1))] 101920
 (.ite (nt (v B 101920))
 (.ret [a (k false)])
 (.call f_spec_l20One [a (v I 0)] 102240
 (.ite (nt (v B 102240))
 (.ret [a (k true)])
 (.ret [a (eq (v I 3) (v I 2))])))))))))))
def tr_spec_TimesValid:Tr:=.call f_spec_l1In [a (v I 1),a (c 0),a (c 4)] 100128
 (.ite (nt (v B 100128))
 (.ret [a (k false)])
 (.call f_spec_l1In [a (ln (v (L T4) 0)),a (c 1),a (c 24)] 100448
 (.ite (nt (v B 100448))
 (.ret [a (k false)])
 (.loop [a (v (L T4) 0),a (v I 1),a (c 0)]
 (.ite (lt (v I 2) (ln (v (L T4) 0)))
 (.guard (le (c 0) (v I 2))
 (.guard (lt (v I 2) (ln (v (L T4) 0)))
 (.call f_spec_l20Step [a (f (ix (v (L T4) 0) (v I 2))),a (f (s (ix (v (L T4) 0) (v I 2)))),a (f (s (s (ix (v (L T4) 0) (v I 2))))),a (s (s (s (ix (v (L T4) 0) (v I 2))))),a (v I 2),a (v I 1)] 643
 (.ite (nt (v B 643))
 (.ret [a (k false)])
 (.jump 0 [a (v (L T4) 0),a (v I 1),a (add (v I 2) (c 1))])))))
 (.ret [a (k true)]))))))
def tr_spec_l6Are:Tr:=.loop [a (v (L I) 0),a (c 0)]
 (.ite (lt (v I 1) (ln (v (L I) 0)))
 (.guard (le (c 0) (v I 1))
 (.guard (lt (v I 1) (ln (v (L I) 0)))
 (.call f_spec_l1In [a (ix (v (L I) 0) (v I 1)),a (c 0),a (c 1)] 514
 (.ite (nt (v B 514))
 (.ret [a (k false)])
 (.jump 0 [a (v (L I) 0),a (add (v I 1) (c 1))])))))
 (.ret [a (k true)]))
def tr_spec_l20Letters:Tr:=.loop [a (v (L (L I)) 0),a (v I 1),a (c 0)]
 (.ite (lt (v I 2) (ln (v (L (L I)) 0)))
 (.guard (le (c 0) (v I 2))
 (.guard (lt (v I 2) (ln (v (L (L I)) 0)))
 (.ite (ne (ln (ix (v (L (L I)) 0) (v I 2))) (v I 1))
 (.ret [a (k false)])
 (.guard (le (c 0) (v I 2))
 (.guard (lt (v I 2) (ln (v (L (L I)) 0)))
 (.call f_spec_l6Are [a (ix (v (L (L I)) 0) (v I 2))] 1027
 (.ite (nt (v B 1027))
 (.ret [a (k false)])
 (.jump 0 [a (v (L (L I)) 0),a (v I 1),a (add (v I 2) (c 1))]))))))))
 (.ret [a (k true)]))
def tr_spec_WordValid:Tr:=.call f_spec_l1In [a (v I 2),a (c 0),a (c 4)] 100128
 (.ite (v B 100128)
 (.ite (gt (ln (v (L (L I)) 1)) (c 0))
 (.ite (le (add (ln (v (L (L I)) 0)) (ln (v (L (L I)) 1))) (c 60))
 (.call f_spec_l20Letters [a (v (L (L I)) 0),a (v I 2)] 101216
 (.ite (v B 101216)
 (.call f_spec_l20Letters [a (v (L (L I)) 1),a (v I 2)] 101536
 (.ret [a (v B 101536)]))
 (.ret [a (k false)])))
 (.ret [a (k false)]))
 (.ret [a (k false)]))
 (.ret [a (k false)]))
def tr_spec_l20Next:Tr:=.ite (lt (add (v I 0) (c 1)) (v I 2))
 (.ret [a (add (v I 0) (c 1))])
 (.ret [a (v I 1)])
def tr_spec_l20Later:Tr:=.loop [a (v (L (L I)) 4),a (v I 5),a (v I 6),a (c 0),a (v I 0),a (v I 1),a (v I 2),a (v I 3),a (nl I)]
 (.ite (lt (v I 3) (v I 2))
 (.join
 (.ite (eq (v I 4) (c 7))
 (.guard (le (ln (v (L I) 8)) (c 549755813888))
 (.guard (le (ln (one (c 1))) (c 549755813888))
 (.jump 0 [a (v (L (L I)) 0),a (v I 1),a (v I 2),a (v I 3),a (v I 4),a (v I 5),a (v I 6),a (v I 7),a (app (v (L I) 8) (one (c 1)))])))
 (.guard (le (ln (v (L I) 8)) (c 549755813888))
 (.guard (le (ln (one (c 0))) (c 549755813888))
 (.jump 0 [a (v (L (L I)) 0),a (v I 1),a (v I 2),a (v I 3),a (v I 4),a (v I 5),a (v I 6),a (v I 7),a (app (v (L I) 8) (one (c 0)))]))))
 (.jump 0 [a (v (L (L I)) 0),a (v I 1),a (v I 2),a (add (v I 3) (c 1)),a (v I 4),a (v I 5),a (v I 6),a (v I 7),a (v (L I) 8)]))
 (.loop [a (v (L (L I)) 0),a (v I 1),a (v I 2),a (c 0),a (v I 4),a (v I 5),a (v I 6),a (v I 7),a (v (L I) 8)]
 (.ite (le (v I 3) (v I 2))
 (.loop [a (v (L (L I)) 0),a (v I 1),a (v I 2),a (v I 3),a (sub (v I 2) (c 1)),a (v I 4),a (v I 5),a (v I 6),a (v I 7),a (v (L I) 8)]
 (.ite (ge (v I 4) (c 0))
 (.join
 (.guard (le (c 0) (v I 7))
 (.guard (lt (v I 7) (ln (v (L (L I)) 0)))
 (.guard (le (c 0) (v I 4))
 (.guard (lt (v I 4) (ln (ix (v (L (L I)) 0) (v I 7))))
 (.guard (le (c 0) (v I 8))
 (.guard (lt (v I 8) (ln (v (L (L I)) 0)))
 (.guard (le (c 0) (v I 4))
 (.guard (lt (v I 4) (ln (ix (v (L (L I)) 0) (v I 8))))
 (.call f_spec_l20Next [a (v I 4),a (v I 1),a (v I 2)] 1548
 (.guard (le (c 0) (v I 1548))
 (.guard (lt (v I 1548) (ln (v (L I) 9)))
 (.ite (eq (v I 5) (c 6))
 (.ite (eq (ix (ix (v (L (L I)) 0) (v I 8)) (v I 4)) (c 1))
 (.call f_spec_l1Truth [a (k true)] 2764
 (.guard (le (c 0) (v I 4))
 (.guard (lt (v I 4) (ln (v (L I) 9)))
 (.jump 0 [a (v (L (L I)) 0),a (v I 1),a (v I 2),a (v I 3),a (v I 4),a (v I 5),a (v I 6),a (v I 7),a (v I 8),a (st (v (L I) 9) (v I 4) (v I 2764))]))))
 (.ite (eq (ix (ix (v (L (L I)) 0) (v I 7)) (v I 4)) (c 1))
 (.call f_spec_l1Truth [a (eq (ix (v (L I) 9) (v I 1548)) (c 1))] 2764
 (.guard (le (c 0) (v I 4))
 (.guard (lt (v I 4) (ln (v (L I) 9)))
 (.jump 0 [a (v (L (L I)) 0),a (v I 1),a (v I 2),a (v I 3),a (v I 4),a (v I 5),a (v I 6),a (v I 7),a (v I 8),a (st (v (L I) 9) (v I 4) (v I 2764))]))))
 (.call f_spec_l1Truth [a (k false)] 2764
 (.guard (le (c 0) (v I 4))
 (.guard (lt (v I 4) (ln (v (L I) 9)))
 (.jump 0 [a (v (L (L I)) 0),a (v I 1),a (v I 2),a (v I 3),a (v I 4),a (v I 5),a (v I 6),a (v I 7),a (v I 8),a (st (v (L I) 9) (v I 4) (v I 2764))]))))))
 (.ite (eq (ix (ix (v (L (L I)) 0) (v I 8)) (v I 4)) (c 1))
 (.ite (eq (ix (ix (v (L (L I)) 0) (v I 7)) (v I 4)) (c 1))
 (.call f_spec_l1Truth [a (k true)] 2764
 (.guard (le (c 0) (v I 4))
 (.guard (lt (v I 4) (ln (v (L I) 9)))
 (.jump 0 [a (v (L (L I)) 0),a (v I 1),a (v I 2),a (v I 3),a (v I 4),a (v I 5),a (v I 6),a (v I 7),a (v I 8),a (st (v (L I) 9) (v I 4) (v I 2764))]))))
 (.call f_spec_l1Truth [a (eq (ix (v (L I) 9) (v I 1548)) (c 1))] 2764
 (.guard (le (c 0) (v I 4))
 (.guard (lt (v I 4) (ln (v (L I) 9)))
 (.jump 0 [a (v (L (L I)) 0),a (v I 1),a (v I 2),a (v I 3),a (v I 4),a (v I 5),a (v I 6),a (v I 7),a (v I 8),a (st (v (L I) 9) (v I 4) (v I 2764))])))))
 (.call f_spec_l1Truth [a (k false)] 2764
 (.guard (le (c 0) (v I 4))
 (.guard (lt (v I 4) (ln (v (L I) 9)))
 (.jump 0 [a (v (L (L I)) 0),a (v I 1),a (v I 2),a (v I 3),a (v I 4),a (v I 5),a (v I 6),a (v I 7),a (v I 8),a (st (v (L I) 9) (v I 4) (v I 2764))])))))))))))))))))
 (.jump 0 [a (v (L (L I)) 0),a (v I 1),a (v I 2),a (v I 3),a (sub (v I 4) (c 1)),a (v I 5),a (v I 6),a (v I 7),a (v I 8),a (v (L I) 9)]))
 (.jump 1 [a (v (L (L I)) 0),a (v I 1),a (v I 2),a (add (v I 3) (c 1)),a (v I 5),a (v I 6),a (v I 7),a (v I 8),a (v (L I) 9)])))
 (.ret [a (v (L I) 8)]))))
def tr_spec_l20Row:Tr:=.ite (ge (v I 0) (c 6))
 (.call f_spec_l20Later [a (v I 0),a (v I 1),a (v I 2),a (v I 3),a (v (L (L I)) 4),a (ln (v (L (L I)) 5)),a (add (ln (v (L (L I)) 5)) (ln (v (L (L I)) 6)))] 101024
 (.ret [a (v (L I) 101024)]))
 (.loop [a (v (L (L I)) 4),a (v (L (L I)) 5),a (v (L (L I)) 6),a (add (ln (v (L (L I)) 5)) (ln (v (L (L I)) 6))),a (c 0),a (v I 0),a (v I 1),a (v I 2),a (v I 3),a (nl I)]
 (.ite (lt (v I 4) (v I 3))
 (.join
 (.ite (eq (v I 5) (c 1))
 (.call f_spec_l3At [a (v (L (L I)) 1),a (v (L (L I)) 2),a (v I 4)] 780
 (.guard (le (c 0) (v I 6))
 (.guard (lt (v I 6) (ln (v (L I) 780)))
 (.jump 0 [a (v (L (L I)) 0),a (v (L (L I)) 1),a (v (L (L I)) 2),a (v I 3),a (v I 4),a (ix (v (L I) 780) (v I 6)),a (v I 5),a (v I 6),a (v I 7),a (v I 8),a (v (L I) 9)]))))
 (.ite (eq (v I 5) (c 2))
 (.guard (le (c 0) (v I 7))
 (.guard (lt (v I 7) (ln (v (L (L I)) 0)))
 (.guard (le (c 0) (v I 4))
 (.guard (lt (v I 4) (ln (ix (v (L (L I)) 0) (v I 7))))
 (.jump 0 [a (v (L (L I)) 0),a (v (L (L I)) 1),a (v (L (L I)) 2),a (v I 3),a (v I 4),a (sub (c 1) (ix (ix (v (L (L I)) 0) (v I 7)) (v I 4))),a (v I 5),a (v I 6),a (v I 7),a (v I 8),a (v (L I) 9)])))))
 (.ite (eq (v I 5) (c 3))
 (.guard (le (c 0) (v I 7))
 (.guard (lt (v I 7) (ln (v (L (L I)) 0)))
 (.guard (le (c 0) (v I 4))
 (.guard (lt (v I 4) (ln (ix (v (L (L I)) 0) (v I 7))))
 (.guard (le (c 0) (v I 8))
 (.guard (lt (v I 8) (ln (v (L (L I)) 0)))
 (.guard (le (c 0) (v I 4))
 (.guard (lt (v I 4) (ln (ix (v (L (L I)) 0) (v I 8))))
 (.jump 0 [a (v (L (L I)) 0),a (v (L (L I)) 1),a (v (L (L I)) 2),a (v I 3),a (v I 4),a (mul (ix (ix (v (L (L I)) 0) (v I 7)) (v I 4)) (ix (ix (v (L (L I)) 0) (v I 8)) (v I 4))),a (v I 5),a (v I 6),a (v I 7),a (v I 8),a (v (L I) 9)])))))))))
 (.ite (eq (v I 5) (c 4))
 (.guard (le (c 0) (v I 7))
 (.guard (lt (v I 7) (ln (v (L (L I)) 0)))
 (.guard (le (c 0) (v I 4))
 (.guard (lt (v I 4) (ln (ix (v (L (L I)) 0) (v I 7))))
 (.guard (le (c 0) (v I 8))
 (.guard (lt (v I 8) (ln (v (L (L I)) 0)))
 (.guard (le (c 0) (v I 4))
 (.guard (lt (v I 4) (ln (ix (v (L (L I)) 0) (v I 8))))
 (.call f_spec_l1Truth [a (gt (add (ix (ix (v (L (L I)) 0) (v I 7)) (v I 4)) (ix (ix (v (L (L I)) 0) (v I 8)) (v I 4))) (c 0))] 2188
 (.jump 0 [a (v (L (L I)) 0),a (v (L (L I)) 1),a (v (L (L I)) 2),a (v I 3),a (v I 4),a (v I 2188),a (v I 5),a (v I 6),a (v I 7),a (v I 8),a (v (L I) 9)]))))))))))
 (.ite (eq (v I 5) (c 5))
 (.guard (le (c 0) (v I 7))
 (.guard (lt (v I 7) (ln (v (L (L I)) 0)))
 (.call f_spec_l20Next [a (v I 4),a (ln (v (L (L I)) 1)),a (v I 3)] 1804
 (.guard (le (c 0) (v I 1804))
 (.guard (lt (v I 1804) (ln (ix (v (L (L I)) 0) (v I 7))))
 (.jump 0 [a (v (L (L I)) 0),a (v (L (L I)) 1),a (v (L (L I)) 2),a (v I 3),a (v I 4),a (ix (ix (v (L (L I)) 0) (v I 7)) (v I 1804)),a (v I 5),a (v I 6),a (v I 7),a (v I 8),a (v (L I) 9)]))))))
 (.jump 0 [a (v (L (L I)) 0),a (v (L (L I)) 1),a (v (L (L I)) 2),a (v I 3),a (v I 4),a (c 1),a (v I 5),a (v I 6),a (v I 7),a (v I 8),a (v (L I) 9)]))))))
 (.guard (le (ln (v (L I) 10)) (c 549755813888))
 (.guard (le (ln (one (v I 5))) (c 549755813888))
 (.jump 0 [a (v (L (L I)) 0),a (v (L (L I)) 1),a (v (L (L I)) 2),a (v I 3),a (add (v I 4) (c 1)),a (v I 6),a (v I 7),a (v I 8),a (v I 9),a (app (v (L I) 10) (one (v I 5)))]))))
 (.ret [a (v (L I) 9)])))
def tr_spec_TimesOn:Tr:=.call f_spec_TimesValid [a (v (L T4) 0),a (v I 3)] 100192
 (.ite (nt (v B 100192))
 (.ret [a (nl (L I))])
 (.call f_spec_WordValid [a (v (L (L I)) 1),a (v (L (L I)) 2),a (v I 3)] 100576
 (.ite (nt (v B 100576))
 (.ret [a (nl (L I))])
 (.loop [a (v (L T4) 0),a (v (L (L I)) 1),a (v (L (L I)) 2),a (c 0),a (nl (L I))]
 (.ite (lt (v I 3) (ln (v (L T4) 0)))
 (.guard (le (c 0) (v I 3))
 (.guard (lt (v I 3) (ln (v (L T4) 0)))
 (.call f_spec_l20Row [a (f (ix (v (L T4) 0) (v I 3))),a (f (s (ix (v (L T4) 0) (v I 3)))),a (f (s (s (ix (v (L T4) 0) (v I 3))))),a (s (s (s (ix (v (L T4) 0) (v I 3))))),a (v (L (L I)) 4),a (v (L (L I)) 1),a (v (L (L I)) 2)] 774
 (.guard (le (ln (v (L (L I)) 4)) (c 549755813888))
 (.guard (le (ln (one (v (L I) 774))) (c 549755813888))
 (.jump 0 [a (v (L T4) 0),a (v (L (L I)) 1),a (v (L (L I)) 2),a (add (v I 3) (c 1)),a (app (v (L (L I)) 4) (one (v (L I) 774)))]))))))
 (.ret [a (v (L (L I)) 4)]))))))
def tr_spec_HoldsOn:Tr:=.call f_spec_TimesOn [a (v (L T4) 0),a (v (L (L I)) 1),a (v (L (L I)) 2),a (v I 3)] 100320
 (.ite (gt (ln (v (L (L I)) 100320)) (c 0))
 (.guard (le (c 0) (sub (ln (v (L (L I)) 100320)) (c 1)))
 (.guard (lt (sub (ln (v (L (L I)) 100320)) (c 1)) (ln (v (L (L I)) 100320)))
 (.guard (lt (c 0) (ln (ix (v (L (L I)) 100320) (sub (ln (v (L (L I)) 100320)) (c 1)))))
 (.ret [a (eq (ix (ix (v (L (L I)) 100320) (sub (ln (v (L (L I)) 100320)) (c 1))) (c 0)) (c 1))]))))
 (.ret [a (k false)]))
end Go.Proofs.YtdgpohclhppodaaGreat
namespace Go.Proofs.YtdgpohclhppodaaGreat
open Go Go.Sm Go.Sm.Q
def tr_spec_HoldsOnRun:Tr:=.call f_spec_l20Facts [a (v (L V3) 0),a (v (L TR) 1),a (v (L (L T4)) 2)] 100256
 (.ite (nt (v B 100256))
 (.ret [a (k false)])
 (.call f_spec_LassoValid [a (v (L V3) 0),a (v (L TR) 1),a (v (L (L I)) 4),a (v (L (L I)) 5)] 100640
 (.ite (nt (v B 100640))
 (.ret [a (k false)])
 (.loop [a (v (L (L T4)) 2),a (v (L T4) 3),a (v (L (L I)) 4),a (v (L (L I)) 5),a (c 0),a (nl (L I)),a (nl (L I))]
 (.ite (lt (v I 4) (ln (v (L (L I)) 2)))
 (.guard (le (c 0) (v I 4))
 (.guard (lt (v I 4) (ln (v (L (L I)) 2)))
 (.call f_spec_l20Of [a (v (L (L T4)) 0),a (ix (v (L (L I)) 2) (v I 4))] 649
 (.guard (le (ln (v (L (L I)) 5)) (c 549755813888))
 (.guard (le (ln (one (v (L I) 649))) (c 549755813888))
 (.jump 0 [a (v (L (L T4)) 0),a (v (L T4) 1),a (v (L (L I)) 2),a (v (L (L I)) 3),a (add (v I 4) (c 1)),a (app (v (L (L I)) 5) (one (v (L I) 649))),a (v (L (L I)) 6)]))))))
 (.loop [a (v (L (L T4)) 0),a (v (L T4) 1),a (v (L (L I)) 3),a (c 0),a (v (L (L I)) 5),a (v (L (L I)) 6)]
 (.ite (lt (v I 3) (ln (v (L (L I)) 2)))
 (.guard (le (c 0) (v I 3))
 (.guard (lt (v I 3) (ln (v (L (L I)) 2)))
 (.call f_spec_l20Of [a (v (L (L T4)) 0),a (ix (v (L (L I)) 2) (v I 3))] 648
 (.guard (le (ln (v (L (L I)) 5)) (c 549755813888))
 (.guard (le (ln (one (v (L I) 648))) (c 549755813888))
 (.jump 0 [a (v (L (L T4)) 0),a (v (L T4) 1),a (v (L (L I)) 2),a (add (v I 3) (c 1)),a (v (L (L I)) 4),a (app (v (L (L I)) 5) (one (v (L I) 648)))]))))))
 (.call f_spec_HoldsOn [a (v (L T4) 1),a (v (L (L I)) 4),a (v (L (L I)) 5),a (ln (v (L (L T4)) 0))] 584
 (.ret [a (v B 584)])))))))))
def tr_impl_LettersOf:Tr:=.call f_impl_factsOk [a (v (L V3) 0),a (v (L TR) 1),a (v (L (L T4)) 2)] 100256
 (.ite (nt (v B 100256))
 (.ret [a (nl I)])
 (.call f_impl_inRange [a (v (L V3) 0),a (v (L TR) 1),a (v (L I) 3)] 100576
 (.ite (nt (v B 100576))
 (.ret [a (nl I)])
 (.call f_impl_letters [a (v (L (L T4)) 2),a (v (L I) 3)] 100896
 (.call f_impl_clone_int [a (v (L I) 100896)] 100960
 (.ret [a (v (L I) 100960)]))))))
def tr_impl_bitsValid:Tr:=.loop [a (v (L I) 0),a (ln (v (L I) 0)),a (c 0)]
 (.ite (lt (v I 2) (v I 1))
 (.guard (le (c 0) (v I 2))
 (.guard (lt (v I 2) (ln (v (L I) 0)))
 (.call f_impl_in [a (ix (v (L I) 0) (v I 2)),a (c 0),a (c 1)] 707
 (.ite (nt (v B 707))
 (.ret [a (nt (ge (v I 2) (c 0)))])
 (.jump 0 [a (v (L I) 0),a (v I 1),a (add (v I 2) (c 1))])))))
 (.ret [a (nt (ge (c (-1)) (c 0)))]))
def tr_impl_letterOk:Tr:=.ite (eq (ln (v (L I) 0)) (v I 1))
 (.call f_impl_bitsValid [a (v (L I) 0)] 100448
 (.ret [a (v B 100448)]))
 (.ret [a (k false)])
def tr_impl_WordValid:Tr:=.call f_impl_in [a (v I 2),a (c 0),a (c 4)] 100320
 (.ite (v B 100320)
 (.ite (gt (ln (v (L (L I)) 1)) (c 0))
 (.ite (le (add (ln (v (L (L I)) 0)) (ln (v (L (L I)) 1))) (c 60))
 (.loop [a (v (L (L I)) 0),a (ln (v (L (L I)) 0)),a (c 0),a (v (L (L I)) 1),a (v I 2)]
 (.ite (lt (v I 2) (v I 1))
 (.guard (le (c 0) (v I 2))
 (.guard (lt (v I 2) (ln (v (L (L I)) 0)))
 (.call f_impl_letterOk [a (ix (v (L (L I)) 0) (v I 2)),a (v I 4)] 774
 (.ite (nt (v B 774))
 (.ite (nt (ge (v I 2) (c 0)))
 (.loop [a (v (L (L I)) 3),a (ln (v (L (L I)) 3)),a (c 0),a (v I 4)]
 (.ite (lt (v I 2) (v I 1))
 (.guard (le (c 0) (v I 2))
 (.guard (lt (v I 2) (ln (v (L (L I)) 0)))
 (.call f_impl_letterOk [a (ix (v (L (L I)) 0) (v I 2)),a (v I 3)] 773
 (.ite (nt (v B 773))
 (.ret [a (nt (ge (v I 2) (c 0)))])
 (.jump 0 [a (v (L (L I)) 0),a (v I 1),a (add (v I 2) (c 1)),a (v I 3)])))))
 (.ret [a (nt (ge (c (-1)) (c 0)))])))
 (.ret [a (k false)]))
 (.jump 0 [a (v (L (L I)) 0),a (v I 1),a (add (v I 2) (c 1)),a (v (L (L I)) 3),a (v I 4)])))))
 (.ite (nt (ge (c (-1)) (c 0)))
 (.loop [a (v (L (L I)) 3),a (ln (v (L (L I)) 3)),a (c 0),a (v I 4)]
 (.ite (lt (v I 2) (v I 1))
 (.guard (le (c 0) (v I 2))
 (.guard (lt (v I 2) (ln (v (L (L I)) 0)))
 (.call f_impl_letterOk [a (ix (v (L (L I)) 0) (v I 2)),a (v I 3)] 773
 (.ite (nt (v B 773))
 (.ret [a (nt (ge (v I 2) (c 0)))])
 (.jump 0 [a (v (L (L I)) 0),a (v I 1),a (add (v I 2) (c 1)),a (v I 3)])))))
 (.ret [a (nt (ge (c (-1)) (c 0)))])))
 (.ret [a (k false)]))))
 (.ret [a (k false)]))
 (.ret [a (k false)]))
 (.ret [a (k false)]))
def tr_impl_TimesOn:Tr:=.call f_impl_TimesValid [a (v (L T4) 0),a (v I 3)] 100192
 (.ite (nt (v B 100192))
 (.ret [a (.nil true (L I))])
 (.call f_impl_WordValid [a (v (L (L I)) 1),a (v (L (L I)) 2),a (v I 3)] 100576
 (.ite (nt (v B 100576))
 (.ret [a (.nil true (L I))])
 (.call f_impl_timesOn [a (v (L T4) 0),a (v (L (L I)) 1),a (v (L (L I)) 2)] 100960
 (.guard (nt (emp (v (L (L I)) 100960)))
 (.ret [a (re true (v (L (L I)) 100960))]))))))
def tr_impl_HoldsOn:Tr:=.call f_impl_TimesOn [a (v (L T4) 0),a (v (L (L I)) 1),a (v (L (L I)) 2),a (v I 3)] 100320
 (.ite (nt (emp (v (N (L I)) 100320)))
 (.guard (le (c 0) (sub (lm (v (N (L I)) 100320)) (c 1)))
 (.guard (lt (sub (lm (v (N (L I)) 100320)) (c 1)) (lm (v (N (L I)) 100320)))
 (.guard (lt (c 0) (ln (im (v (N (L I)) 100320) (sub (lm (v (N (L I)) 100320)) (c 1)))))
 (.ret [a (eq (ix (im (v (N (L I)) 100320) (sub (lm (v (N (L I)) 100320)) (c 1))) (c 0)) (c 1))]))))
 (.ret [a (k false)]))
def tr_laws_FnHoldsOnRun:Tr:=.ite (gt (ln (v (L U) 0)) (c 1048576))
 (.ret [a (k true)])
 (.call f_spec_DrawHoldsOnRun [a (v (L U) 0)] 100320
 (.call f_impl_HoldsOnRun [a (v (L V3) 100320),a (v (L TR) 100321),a (v (L (L T4)) 100322),a (v (L T4) 100323),a (v (L (L I)) 100324),a (v (L (L I)) 100325)] 101472
 (.call f_spec_HoldsOnRun [a (v (L V3) 100320),a (v (L TR) 100321),a (v (L (L T4)) 100322),a (v (L T4) 100323),a (v (L (L I)) 100324),a (v (L (L I)) 100325)] 101984
 (.ite (.o2 .bne (v B 101472) (v B 101984))
 (.ret [a (k false)])
 (.call f_impl_LassoValid [a (v (L V3) 100320),a (v (L TR) 100321),a (v (L (L I)) 100324),a (v (L (L I)) 100325)] 102560
 (.call f_spec_LassoValid [a (v (L V3) 100320),a (v (L TR) 100321),a (v (L (L I)) 100324),a (v (L (L I)) 100325)] 102624
 (.ite (.o2 .bne (v B 102560) (v B 102624))
 (.ret [a (k false)])
 (.call f_impl_LassoValid [a (v (L V3) 100320),a (v (L TR) 100321),a (v (L (L I)) 100324),a (v (L (L I)) 100325)] 103008
 (.ite (nt (v B 103008))
 (.ret [a (nt (v B 101472))])
 (.loop [a (v (L (L T4)) 100322),a (v (L T4) 100323),a (v (L (L I)) 100325),a (v B 101472),a (v (L (L I)) 100324),a (ln (v (L (L I)) 100324)),a (c 0),a (v (L V3) 100320),a (v (L TR) 100321),a (nl (L I)),a (nl (L I))]
 (.ite (lt (v I 6) (v I 5))
 (.guard (le (c 0) (v I 6))
 (.guard (lt (v I 6) (ln (v (L (L I)) 4)))
 (.call f_impl_LettersOf [a (v (L V3) 7),a (v (L TR) 8),a (v (L (L T4)) 0),a (ix (v (L (L I)) 4) (v I 6))] 526
 (.guard (le (ln (v (L (L I)) 9)) (c 549755813888))
 (.guard (le (ln (one (v (L I) 526))) (c 549755813888))
 (.jump 0 [a (v (L (L T4)) 0),a (v (L T4) 1),a (v (L (L I)) 2),a (v B 3),a (v (L (L I)) 4),a (v I 5),a (add (v I 6) (c 1)),a (v (L V3) 7),a (v (L TR) 8),a (app (v (L (L I)) 9) (one (v (L I) 526))),a (v (L (L I)) 10)]))))))
 (.loop [a (v (L (L T4)) 0),a (v (L T4) 1),a (v B 3),a (v (L (L I)) 2),a (ln (v (L (L I)) 2)),a (c 0),a (v (L V3) 7),a (v (L TR) 8),a (v (L (L I)) 9),a (v (L (L I)) 10)]
 (.ite (lt (v I 5) (v I 4))
 (.guard (le (c 0) (v I 5))
 (.guard (lt (v I 5) (ln (v (L (L I)) 3)))
 (.call f_impl_LettersOf [a (v (L V3) 6),a (v (L TR) 7),a (v (L (L T4)) 0),a (ix (v (L (L I)) 3) (v I 5))] 525
 (.guard (le (ln (v (L (L I)) 9)) (c 549755813888))
 (.guard (le (ln (one (v (L I) 525))) (c 549755813888))
 (.jump 0 [a (v (L (L T4)) 0),a (v (L T4) 1),a (v B 2),a (v (L (L I)) 3),a (v I 4),a (add (v I 5) (c 1)),a (v (L V3) 6),a (v (L TR) 7),a (v (L (L I)) 8),a (app (v (L (L I)) 9) (one (v (L I) 525)))]))))))
 (.ite (nt (v B 2))
 (.ret [a (k true)])
 (.call f_impl_HoldsOn [a (v (L T4) 1),a (v (L (L I)) 8),a (v (L (L I)) 9),a (ln (v (L (L T4)) 0))] 589
 (.ret [a (v B 589)]))))))))))))))))
end Go.Proofs.YtdgpohclhppodaaGreat
namespace Go.Proofs.YtdgpohclhppodaaGreat
open Go Go.Sm Go.Sm.Q
set_option maxRecDepth 100000
def trL:List (Nat×Tr):=[
(f_spec_l40Open,tr_spec_l40Open),
(f_spec_l40Rd_pick,tr_spec_l40Rd_pick),
(f_spec_l40Rd_num,tr_spec_l40Rd_num),
(f_spec_l2VarOf,tr_spec_l2VarOf),
(f_spec_l2Const,tr_spec_l2Const),
(f_spec_l2Cond,tr_spec_l2Cond),
(f_spec_l1In,tr_spec_l1In),
(f_spec_l1One,tr_spec_l1One),
(f_spec_l1Kind,tr_spec_l1Kind),
(f_spec_KindsOf,tr_spec_KindsOf),
(f_spec_TermsValid,tr_spec_TermsValid),
(f_spec_l1Moved,tr_spec_l1Moved),
(f_spec_Joined,tr_spec_Joined),
(f_spec_l2When,tr_spec_l2When),
(f_spec_l1Number,tr_spec_l1Number),
(f_spec_l1Pick,tr_spec_l1Pick),
(f_spec_l1Terms,tr_spec_l1Terms),
(f_spec_l2Value,tr_spec_l2Value),
(f_spec_l2Rules,tr_spec_l2Rules),
(f_spec_l2System,tr_spec_l2System),
(f_spec_l2Any,tr_spec_l2Any),
(f_spec_l2Var,tr_spec_l2Var),
(f_spec_l1Any,tr_spec_l1Any),
(f_impl_in,tr_impl_in),
(f_impl_varOk,tr_impl_varOk),
(f_impl_size,tr_impl_size),
(f_impl_parts,tr_impl_parts),
(f_impl_kindsOf,tr_impl_kindsOf),
(f_impl_kindOf,tr_impl_kindOf),
(f_impl_ruleOk,tr_impl_ruleOk),
(f_impl_SystemValid,tr_impl_SystemValid),
(f_impl_held,tr_impl_held),
(f_impl_bit,tr_impl_bit),
(f_impl_do,tr_impl_do),
(f_impl_eval,tr_impl_eval),
(f_impl_clone_int,tr_impl_clone_int),
(f_impl_first,tr_impl_first),
(f_impl_inRange,tr_impl_inRange),
(f_impl_use,tr_impl_use),
(f_slices_Equal_Sint_int,tr_slices_Equal_Sint_int),
(f_impl_ruleBetween,tr_impl_ruleBetween),
(f_spec_l2Is,tr_spec_l2Is),
(f_spec_l2Rule,tr_spec_l2Rule),
(f_spec_SystemValid,tr_spec_SystemValid),
(f_spec_FirstState,tr_spec_FirstState),
(f_spec_l3Copy,tr_spec_l3Copy),
(f_spec_l1Held,tr_spec_l1Held),
(f_spec_l1Truth,tr_spec_l1Truth),
(f_spec_l1Do,tr_spec_l1Do),
(f_spec_l1Values,tr_spec_l1Values),
(f_spec_l2Last,tr_spec_l2Last),
(f_spec_l2In,tr_spec_l2In),
(f_spec_l2Use,tr_spec_l2Use),
(f_spec_l2Same,tr_spec_l2Same),
(f_spec_l2Less,tr_spec_l2Less),
(f_spec_l2Put,tr_spec_l2Put),
(f_spec_l2Next,tr_spec_l2Next),
(f_spec_l2Some,tr_spec_l2Some),
(f_spec_l3Laced,tr_spec_l3Laced),
(f_spec_l20Asked,tr_spec_l20Asked),
(f_spec_l20One,tr_spec_l20One),
(f_spec_l20Draw,tr_spec_l20Draw),
(f_spec_l20Any,tr_spec_l20Any),
(f_spec_DrawHoldsOnRun,tr_spec_DrawHoldsOnRun),
(f_impl_factsOk,tr_impl_factsOk),
(f_impl_lassoOk,tr_impl_lassoOk),
(f_slices_Concat_SSint_Sint,tr_slices_Concat_SSint_Sint),
(f_impl_usableIn,tr_impl_usableIn),
(f_impl_follows,tr_impl_follows),
(f_impl_LassoValid,tr_impl_LassoValid),
(f_impl_TimesValid,tr_impl_TimesValid),
(f_impl_letters,tr_impl_letters),
(f_impl_word,tr_impl_word),
(f_impl_timesOn,tr_impl_timesOn),
(f_impl_HoldsOnRun,tr_impl_HoldsOnRun),
(f_spec_l20Facts,tr_spec_l20Facts),
(f_spec_l3At,tr_spec_l3At),
(f_spec_l3Follows,tr_spec_l3Follows),
(f_spec_LassoValid,tr_spec_LassoValid),
(f_spec_l20Of,tr_spec_l20Of),
(f_spec_l20Step,tr_spec_l20Step),
(f_spec_TimesValid,tr_spec_TimesValid),
(f_spec_l6Are,tr_spec_l6Are),
(f_spec_l20Letters,tr_spec_l20Letters),
(f_spec_WordValid,tr_spec_WordValid),
(f_spec_l20Next,tr_spec_l20Next),
(f_spec_l20Later,tr_spec_l20Later),
(f_spec_l20Row,tr_spec_l20Row),
(f_spec_TimesOn,tr_spec_TimesOn),
(f_spec_HoldsOn,tr_spec_HoldsOn),
(f_spec_HoldsOnRun,tr_spec_HoldsOnRun),
(f_impl_LettersOf,tr_impl_LettersOf),
(f_impl_bitsValid,tr_impl_bitsValid),
(f_impl_letterOk,tr_impl_letterOk),
(f_impl_WordValid,tr_impl_WordValid),
(f_impl_TimesOn,tr_impl_TimesOn),
(f_impl_HoldsOn,tr_impl_HoldsOn),
(f_laws_FnHoldsOnRun,tr_laws_FnHoldsOnRun)]
def haL:List Nat:=[]
def mc:Mc:=⟨fun f=>(trL.find? (·.1==f)).map (·.2),fun f ins=>if haL.contains f then some ins else none⟩
theorem F_spec_l40Open:mc.F f_spec_l40Open=some tr_spec_l40Open:=rfl
theorem F_spec_l40Rd_pick:mc.F f_spec_l40Rd_pick=some tr_spec_l40Rd_pick:=rfl
theorem F_spec_l40Rd_num:mc.F f_spec_l40Rd_num=some tr_spec_l40Rd_num:=rfl
theorem F_spec_l2VarOf:mc.F f_spec_l2VarOf=some tr_spec_l2VarOf:=rfl
theorem F_spec_l2Const:mc.F f_spec_l2Const=some tr_spec_l2Const:=rfl
theorem F_spec_l2Cond:mc.F f_spec_l2Cond=some tr_spec_l2Cond:=rfl
theorem F_spec_l1In:mc.F f_spec_l1In=some tr_spec_l1In:=rfl
theorem F_spec_l1One:mc.F f_spec_l1One=some tr_spec_l1One:=rfl
theorem F_spec_l1Kind:mc.F f_spec_l1Kind=some tr_spec_l1Kind:=rfl
theorem F_spec_KindsOf:mc.F f_spec_KindsOf=some tr_spec_KindsOf:=rfl
theorem F_spec_TermsValid:mc.F f_spec_TermsValid=some tr_spec_TermsValid:=rfl
theorem F_spec_l1Moved:mc.F f_spec_l1Moved=some tr_spec_l1Moved:=rfl
theorem F_spec_Joined:mc.F f_spec_Joined=some tr_spec_Joined:=rfl
theorem F_spec_l2When:mc.F f_spec_l2When=some tr_spec_l2When:=rfl
theorem F_spec_l1Number:mc.F f_spec_l1Number=some tr_spec_l1Number:=rfl
theorem F_spec_l1Pick:mc.F f_spec_l1Pick=some tr_spec_l1Pick:=rfl
theorem F_spec_l1Terms:mc.F f_spec_l1Terms=some tr_spec_l1Terms:=rfl
theorem F_spec_l2Value:mc.F f_spec_l2Value=some tr_spec_l2Value:=rfl
theorem F_spec_l2Rules:mc.F f_spec_l2Rules=some tr_spec_l2Rules:=rfl
theorem F_spec_l2System:mc.F f_spec_l2System=some tr_spec_l2System:=rfl
theorem F_spec_l2Any:mc.F f_spec_l2Any=some tr_spec_l2Any:=rfl
theorem F_spec_l2Var:mc.F f_spec_l2Var=some tr_spec_l2Var:=rfl
theorem F_spec_l1Any:mc.F f_spec_l1Any=some tr_spec_l1Any:=rfl
theorem F_impl_in:mc.F f_impl_in=some tr_impl_in:=rfl
theorem F_impl_varOk:mc.F f_impl_varOk=some tr_impl_varOk:=rfl
theorem F_impl_size:mc.F f_impl_size=some tr_impl_size:=rfl
theorem F_impl_parts:mc.F f_impl_parts=some tr_impl_parts:=rfl
theorem F_impl_kindsOf:mc.F f_impl_kindsOf=some tr_impl_kindsOf:=rfl
theorem F_impl_kindOf:mc.F f_impl_kindOf=some tr_impl_kindOf:=rfl
theorem F_impl_ruleOk:mc.F f_impl_ruleOk=some tr_impl_ruleOk:=rfl
theorem F_impl_SystemValid:mc.F f_impl_SystemValid=some tr_impl_SystemValid:=rfl
theorem F_impl_held:mc.F f_impl_held=some tr_impl_held:=rfl
theorem F_impl_bit:mc.F f_impl_bit=some tr_impl_bit:=rfl
theorem F_impl_do:mc.F f_impl_do=some tr_impl_do:=rfl
theorem F_impl_eval:mc.F f_impl_eval=some tr_impl_eval:=rfl
theorem F_impl_clone_int:mc.F f_impl_clone_int=some tr_impl_clone_int:=rfl
theorem F_impl_first:mc.F f_impl_first=some tr_impl_first:=rfl
theorem F_impl_inRange:mc.F f_impl_inRange=some tr_impl_inRange:=rfl
theorem F_impl_use:mc.F f_impl_use=some tr_impl_use:=rfl
theorem F_slices_Equal_Sint_int:mc.F f_slices_Equal_Sint_int=some tr_slices_Equal_Sint_int:=rfl
theorem F_impl_ruleBetween:mc.F f_impl_ruleBetween=some tr_impl_ruleBetween:=rfl
theorem F_spec_l2Is:mc.F f_spec_l2Is=some tr_spec_l2Is:=rfl
theorem F_spec_l2Rule:mc.F f_spec_l2Rule=some tr_spec_l2Rule:=rfl
theorem F_spec_SystemValid:mc.F f_spec_SystemValid=some tr_spec_SystemValid:=rfl
theorem F_spec_FirstState:mc.F f_spec_FirstState=some tr_spec_FirstState:=rfl
theorem F_spec_l3Copy:mc.F f_spec_l3Copy=some tr_spec_l3Copy:=rfl
theorem F_spec_l1Held:mc.F f_spec_l1Held=some tr_spec_l1Held:=rfl
theorem F_spec_l1Truth:mc.F f_spec_l1Truth=some tr_spec_l1Truth:=rfl
theorem F_spec_l1Do:mc.F f_spec_l1Do=some tr_spec_l1Do:=rfl
theorem F_spec_l1Values:mc.F f_spec_l1Values=some tr_spec_l1Values:=rfl
theorem F_spec_l2Last:mc.F f_spec_l2Last=some tr_spec_l2Last:=rfl
theorem F_spec_l2In:mc.F f_spec_l2In=some tr_spec_l2In:=rfl
theorem F_spec_l2Use:mc.F f_spec_l2Use=some tr_spec_l2Use:=rfl
theorem F_spec_l2Same:mc.F f_spec_l2Same=some tr_spec_l2Same:=rfl
theorem F_spec_l2Less:mc.F f_spec_l2Less=some tr_spec_l2Less:=rfl
theorem F_spec_l2Put:mc.F f_spec_l2Put=some tr_spec_l2Put:=rfl
theorem F_spec_l2Next:mc.F f_spec_l2Next=some tr_spec_l2Next:=rfl
theorem F_spec_l2Some:mc.F f_spec_l2Some=some tr_spec_l2Some:=rfl
theorem F_spec_l3Laced:mc.F f_spec_l3Laced=some tr_spec_l3Laced:=rfl
theorem F_spec_l20Asked:mc.F f_spec_l20Asked=some tr_spec_l20Asked:=rfl
theorem F_spec_l20One:mc.F f_spec_l20One=some tr_spec_l20One:=rfl
theorem F_spec_l20Draw:mc.F f_spec_l20Draw=some tr_spec_l20Draw:=rfl
theorem F_spec_l20Any:mc.F f_spec_l20Any=some tr_spec_l20Any:=rfl
theorem F_spec_DrawHoldsOnRun:mc.F f_spec_DrawHoldsOnRun=some tr_spec_DrawHoldsOnRun:=rfl
theorem F_impl_factsOk:mc.F f_impl_factsOk=some tr_impl_factsOk:=rfl
theorem F_impl_lassoOk:mc.F f_impl_lassoOk=some tr_impl_lassoOk:=rfl
theorem F_slices_Concat_SSint_Sint:mc.F f_slices_Concat_SSint_Sint=some tr_slices_Concat_SSint_Sint:=rfl
theorem F_impl_usableIn:mc.F f_impl_usableIn=some tr_impl_usableIn:=rfl
theorem F_impl_follows:mc.F f_impl_follows=some tr_impl_follows:=rfl
theorem F_impl_LassoValid:mc.F f_impl_LassoValid=some tr_impl_LassoValid:=rfl
theorem F_impl_TimesValid:mc.F f_impl_TimesValid=some tr_impl_TimesValid:=rfl
theorem F_impl_letters:mc.F f_impl_letters=some tr_impl_letters:=rfl
theorem F_impl_word:mc.F f_impl_word=some tr_impl_word:=rfl
theorem F_impl_timesOn:mc.F f_impl_timesOn=some tr_impl_timesOn:=rfl
theorem F_impl_HoldsOnRun:mc.F f_impl_HoldsOnRun=some tr_impl_HoldsOnRun:=rfl
theorem F_spec_l20Facts:mc.F f_spec_l20Facts=some tr_spec_l20Facts:=rfl
theorem F_spec_l3At:mc.F f_spec_l3At=some tr_spec_l3At:=rfl
theorem F_spec_l3Follows:mc.F f_spec_l3Follows=some tr_spec_l3Follows:=rfl
theorem F_spec_LassoValid:mc.F f_spec_LassoValid=some tr_spec_LassoValid:=rfl
theorem F_spec_l20Of:mc.F f_spec_l20Of=some tr_spec_l20Of:=rfl
theorem F_spec_l20Step:mc.F f_spec_l20Step=some tr_spec_l20Step:=rfl
theorem F_spec_TimesValid:mc.F f_spec_TimesValid=some tr_spec_TimesValid:=rfl
theorem F_spec_l6Are:mc.F f_spec_l6Are=some tr_spec_l6Are:=rfl
theorem F_spec_l20Letters:mc.F f_spec_l20Letters=some tr_spec_l20Letters:=rfl
theorem F_spec_WordValid:mc.F f_spec_WordValid=some tr_spec_WordValid:=rfl
theorem F_spec_l20Next:mc.F f_spec_l20Next=some tr_spec_l20Next:=rfl
theorem F_spec_l20Later:mc.F f_spec_l20Later=some tr_spec_l20Later:=rfl
theorem F_spec_l20Row:mc.F f_spec_l20Row=some tr_spec_l20Row:=rfl
theorem F_spec_TimesOn:mc.F f_spec_TimesOn=some tr_spec_TimesOn:=rfl
theorem F_spec_HoldsOn:mc.F f_spec_HoldsOn=some tr_spec_HoldsOn:=rfl
theorem F_spec_HoldsOnRun:mc.F f_spec_HoldsOnRun=some tr_spec_HoldsOnRun:=rfl
theorem F_impl_LettersOf:mc.F f_impl_LettersOf=some tr_impl_LettersOf:=rfl
theorem F_impl_bitsValid:mc.F f_impl_bitsValid=some tr_impl_bitsValid:=rfl
theorem F_impl_letterOk:mc.F f_impl_letterOk=some tr_impl_letterOk:=rfl
theorem F_impl_WordValid:mc.F f_impl_WordValid=some tr_impl_WordValid:=rfl
theorem F_impl_TimesOn:mc.F f_impl_TimesOn=some tr_impl_TimesOn:=rfl
theorem F_impl_HoldsOn:mc.F f_impl_HoldsOn=some tr_impl_HoldsOn:=rfl
theorem F_laws_FnHoldsOnRun:mc.F f_laws_FnHoldsOnRun=some tr_laws_FnHoldsOnRun:=rfl
end Go.Proofs.YtdgpohclhppodaaGreat
