/- What the functions of the law come to, as trees; printed by a program; no condition. -/
import Derived.Test.YtdgpohclhppodaaGreatSmLib4
namespace Go.Proofs.YtdgpohclhppodaaGreat
open Go Go.Sm Go.Sm.Q
abbrev YU:Ty:=P (P (L V3) (L TR)) (P (L (L I)) (P (L (L I)) (P (L (L B)) (P (L (P (L I) I)) (P (L I) (L I))))))
abbrev YT:Ty:=P (P (L V3) (L TR)) (P (L (L I)) (P (L (L I)) (P (L (L B)) (P (L (P (L I) I)) (P (L I) (N I))))))
abbrev Zbo:Nat:=141
abbrev ZI:Nat:=144
abbrev Zbp:Nat:=143
abbrev Zbq:Nat:=255
abbrev Zbr:Nat:=224
abbrev Zbs:Nat:=182
abbrev Zbt:Nat:=72
abbrev Zbu:Nat:=291
abbrev Zbv:Nat:=239
abbrev Zbw:Nat:=160
abbrev Zbx:Nat:=292
abbrev Zby:Nat:=293
abbrev Zbz:Nat:=226
abbrev ZbA:Nat:=146
abbrev ZbB:Nat:=289
abbrev ZbC:Nat:=290
abbrev ZbD:Nat:=225
abbrev ZbE:Nat:=314
abbrev ZbF:Nat:=288
abbrev ZbG:Nat:=223
abbrev ZbH:Nat:=142
abbrev ZbI:Nat:=73
abbrev ZbJ:Nat:=145
abbrev ZbK:Nat:=39
abbrev ZbL:Nat:=7
abbrev ZbM:Nat:=64
abbrev ZbN:Nat:=67
abbrev ZbO:Nat:=68
abbrev ZbP:Nat:=252
abbrev ZbQ:Nat:=178
abbrev ZbR:Nat:=173
abbrev ZbS:Nat:=71
abbrev ZbT:Nat:=11
abbrev ZbU:Nat:=75
abbrev ZbV:Nat:=117
abbrev ZbW:Nat:=253
abbrev ZbX:Nat:=254
abbrev ZbY:Nat:=179
abbrev ZbZ:Nat:=86
abbrev Zb_:Nat:=147
abbrev Zc0:Nat:=40
abbrev Zc1:Nat:=51
abbrev Zc2:Nat:=42
abbrev Zc3:Nat:=41
abbrev Zc4:Nat:=100
abbrev Zc5:Nat:=87
abbrev Zc6:Nat:=315
abbrev Zc7:Nat:=294
abbrev Zc8:Nat:=228
abbrev Zc9:Nat:=320
abbrev Zca:Nat:=150
abbrev Zcb:Nat:=148
abbrev Zcc:Nat:=43
abbrev Zcd:Nat:=44
abbrev Zce:Nat:=45
abbrev Zcf:Nat:=149
abbrev Zcg:Nat:=78
abbrev Zch:Nat:=230
abbrev Zci:Nat:=297
abbrev Zcj:Nat:=192
abbrev Zck:Nat:=231
abbrev Zcl:Nat:=151
abbrev Zcm:Nat:=46
abbrev Zcn:Nat:=232
abbrev Zco:Nat:=233
abbrev Zcp:Nat:=152
abbrev Zcq:Nat:=47
abbrev Zcr:Nat:=154
abbrev Zcs:Nat:=273
abbrev Zct:Nat:=201
abbrev Zcu:Nat:=202
abbrev Zcv:Nat:=116
abbrev Zcw:Nat:=298
abbrev Zcx:Nat:=236
abbrev Zcy:Nat:=159
abbrev Zcz:Nat:=157
abbrev ZcA:Nat:=158
abbrev ZcB:Nat:=48
abbrev ZcC:Nat:=49
abbrev ZcD:Nat:=50
abbrev ZcE:Nat:=8
abbrev ZcF:Nat:=52
abbrev ZcG:Nat:=74
abbrev ZcH:Nat:=12
abbrev ZcI:Nat:=59
abbrev ZcJ:Nat:=55
abbrev ZcK:Nat:=63
abbrev ZcL:Nat:=164
abbrev ZcM:Nat:=317
abbrev ZcN:Nat:=306
abbrev ZcO:Nat:=302
abbrev ZcP:Nat:=258
abbrev ZcQ:Nat:=188
abbrev ZcR:Nat:=162
abbrev ZcS:Nat:=161
abbrev ZcT:Nat:=53
abbrev ZcU:Nat:=54
abbrev ZcV:Nat:=104
abbrev ZcW:Nat:=240
abbrev ZcX:Nat:=102
abbrev ZcY:Nat:=299
abbrev ZcZ:Nat:=241
abbrev Zc_:Nat:=163
abbrev Zd0:Nat:=56
abbrev Zd1:Nat:=242
abbrev Zd2:Nat:=165
abbrev Zd3:Nat:=57
abbrev Zd4:Nat:=58
abbrev Zd5:Nat:=166
abbrev Zd6:Nat:=243
abbrev Zd7:Nat:=244
abbrev Zd8:Nat:=217
abbrev Zd9:Nat:=131
abbrev Zda:Nat:=269
abbrev Zdb:Nat:=198
abbrev Zdc:Nat:=250
abbrev Zdd:Nat:=170
abbrev Zde:Nat:=301
abbrev Zdf:Nat:=249
abbrev Zdg:Nat:=169
abbrev Zdh:Nat:=300
abbrev Zdi:Nat:=248
abbrev Zdj:Nat:=247
abbrev Zdk:Nat:=168
abbrev Zdl:Nat:=246
abbrev Zdm:Nat:=245
abbrev Zdn:Nat:=167
abbrev Zdo:Nat:=60
abbrev Zdp:Nat:=61
abbrev Zdq:Nat:=62
abbrev Zdr:Nat:=9
abbrev Zds:Nat:=10
abbrev Zdt:Nat:=174
abbrev Zdu:Nat:=77
abbrev Zdv:Nat:=76
abbrev Zdw:Nat:=13
abbrev Zdx:Nat:=79
abbrev Zdy:Nat:=82
abbrev Zdz:Nat:=14
abbrev ZdA:Nat:=175
abbrev ZdB:Nat:=176
abbrev ZdC:Nat:=83
abbrev ZdD:Nat:=15
abbrev ZdE:Nat:=84
abbrev ZdF:Nat:=85
abbrev ZdG:Nat:=16
abbrev ZdH:Nat:=17
abbrev ZdI:Nat:=3
abbrev ZdJ:Nat:=229
abbrev ZdK:Nat:=153
def ZdL:Tr:=.join
 (.ite (gt (ln (v (L U) 0)) (c 2000))
 (.guard (le (c 2000) (ln (re false (v (L U) 0))))
 (.jump 0 [a (take (re false (v (L U) 0)) (c 2000))]))
 (.jump 0 [a (v (L U) 0)]))
 (.ret [a (pr (v (L U) 0) (c 0))])
def ZdM:Tr:=.ite (lt (v I 1) (c 1))
 (.ret [a (c 0),a (pr (f (v (P (L U) I) 0)) (add (s (v (P (L U) I) 0)) (c 1)))])
 (.ite (eq (ln (f (v (P (L U) I) 0))) (c 0))
 (.ret [a (c 0),a (pr (f (v (P (L U) I) 0)) (add (s (v (P (L U) I) 0)) (c 1)))])
 (.ite (lt (sub (add (s (v (P (L U) I) 0)) (c 1)) (c 1)) (ln (f (v (P (L U) I) 0))))
 (.guard (le (c 0) (sub (add (s (v (P (L U) I) 0)) (c 1)) (c 1)))
 (.guard (lt (sub (add (s (v (P (L U) I) 0)) (c 1)) (c 1)) (ln (f (v (P (L U) I) 0))))
 (.guard (ne (v I 1) (c 0))
 (.ret [a (rem (.o1 (.conv .u8 .i64) (ix (f (v (P (L U) I) 0)) (sub (add (s (v (P (L U) I) 0)) (c 1)) (c 1)))) (v I 1)),a (pr (f (v (P (L U) I) 0)) (add (s (v (P (L U) I) 0)) (c 1)))]))))
 (.guard (ne (ln (f (v (P (L U) I) 0))) (c 0))
 (.guard (le (c 0) (rem (sub (add (s (v (P (L U) I) 0)) (c 1)) (c 1)) (ln (f (v (P (L U) I) 0)))))
 (.guard (lt (rem (sub (add (s (v (P (L U) I) 0)) (c 1)) (c 1)) (ln (f (v (P (L U) I) 0)))) (ln (f (v (P (L U) I) 0))))
 (.guard (ne (ln (f (v (P (L U) I) 0))) (c 0))
 (.guard (le (c 0) (rem (add (mul (sub (add (s (v (P (L U) I) 0)) (c 1)) (c 1)) (c 7)) (c 3)) (ln (f (v (P (L U) I) 0)))))
 (.guard (lt (rem (add (mul (sub (add (s (v (P (L U) I) 0)) (c 1)) (c 1)) (c 7)) (c 3)) (ln (f (v (P (L U) I) 0)))) (ln (f (v (P (L U) I) 0))))
 (.guard (ne (ln (f (v (P (L U) I) 0))) (c 0))
 (.guard (ne (v I 1) (c 0))
 (.ret [a (rem (ar .xor (add (add (add (mul (.o1 (.conv .u8 .i64) (ix (f (v (P (L U) I) 0)) (rem (sub (add (s (v (P (L U) I) 0)) (c 1)) (c 1)) (ln (f (v (P (L U) I) 0)))))) (c 131)) (mul (.o1 (.conv .u8 .i64) (ix (f (v (P (L U) I) 0)) (rem (add (mul (sub (add (s (v (P (L U) I) 0)) (c 1)) (c 1)) (c 7)) (c 3)) (ln (f (v (P (L U) I) 0)))))) (c 1117))) (mul (sub (add (s (v (P (L U) I) 0)) (c 1)) (c 1)) (c 29))) (mul (quo (sub (add (s (v (P (L U) I) 0)) (c 1)) (c 1)) (ln (f (v (P (L U) I) 0)))) (c 53))) (quo (add (add (add (mul (.o1 (.conv .u8 .i64) (ix (f (v (P (L U) I) 0)) (rem (sub (add (s (v (P (L U) I) 0)) (c 1)) (c 1)) (ln (f (v (P (L U) I) 0)))))) (c 131)) (mul (.o1 (.conv .u8 .i64) (ix (f (v (P (L U) I) 0)) (rem (add (mul (sub (add (s (v (P (L U) I) 0)) (c 1)) (c 1)) (c 7)) (c 3)) (ln (f (v (P (L U) I) 0)))))) (c 1117))) (mul (sub (add (s (v (P (L U) I) 0)) (c 1)) (c 1)) (c 29))) (mul (quo (sub (add (s (v (P (L U) I) 0)) (c 1)) (c 1)) (ln (f (v (P (L U) I) 0)))) (c 53))) (c 64))) (v I 1)),a (pr (f (v (P (L U) I) 0)) (add (s (v (P (L U) I) 0)) (c 1)))])))))))))))
def ZdN:Tr:=.call ZI [a (pr (f (v (P (L U) I) 0)) (s (v (P (L U) I) 0))),a (ln (v (L I) 1))] 100320
 (.guard (le (c 0) (v I 100320))
 (.guard (lt (v I 100320) (ln (v (L I) 1)))
 (.ret [a (ix (v (L I) 1) (v I 100320)),a (pr (f (v (P (L U) I) 0)) (s (v (P (L U) I) 100321)))])))
def ZdO:Tr:=.ret [a (c 1),a (v I 0),a (c 0),a (c 0)]
def ZdP:Tr:=.ret [a (c 0),a (v I 0),a (c 0),a (c 0)]
def ZdQ:Tr:=.call ZI [a (pr (f (v (P (L U) I) 0)) (s (v (P (L U) I) 0))),a (add (sub (v I 2) (v I 1)) (c 1))] 100704
 (.join
 (.jump 0 [a (v I 4),a (add (v I 1) (v I 100704)),a (f (v (P (L U) I) 0)),a (s (v (P (L U) I) 100705))])
 (.call Zbp [a (pr (v (L U) 2) (v I 3)),a (app (one (c 6)) (app (one (c 5)) (app (one (c 5)) (one (c 6)))))] 133
 (.call Zbq [a (v I 0)] 325
 (.call Zbr [a (v I 1)] 453
 (.join
 (.call ZI [a (pr (v (L U) 2) (s (v (P (L U) I) 134))),a (c 3)] 837
 (.ite (eq (v I 837) (c 0))
 (.guard (le (ln (app (one (pr (v I 325) (pr (v I 326) (pr (v I 327) (v I 328))))) (app (one (pr (v I 453) (pr (v I 454) (pr (v I 455) (v I 456))))) (one (pr (v I 133) (pr (c 0) (pr (c 0) (c 1)))))))) (c 549755813888))
 (.guard (le (ln (one (pr (c 7) (pr (c 0) (pr (c 2) (c 2)))))) (c 549755813888))
 (.jump 0 [a (v (L U) 2),a (s (v (P (L U) I) 838)),a (app (app (one (pr (v I 325) (pr (v I 326) (pr (v I 327) (v I 328))))) (app (one (pr (v I 453) (pr (v I 454) (pr (v I 455) (v I 456))))) (one (pr (v I 133) (pr (c 0) (pr (c 0) (c 1))))))) (one (pr (c 7) (pr (c 0) (pr (c 2) (c 2))))))])))
 (.jump 0 [a (v (L U) 2),a (s (v (P (L U) I) 838)),a (app (one (pr (v I 325) (pr (v I 326) (pr (v I 327) (v I 328))))) (app (one (pr (v I 453) (pr (v I 454) (pr (v I 455) (v I 456))))) (one (pr (v I 133) (pr (c 0) (pr (c 0) (c 1)))))))])))
 (.ret [a (v (L T4) 2),a (pr (v (L U) 0) (v I 1))]))))))
def ZdR:Tr:=.ite (ge (v I 0) (v I 1))
 (.ret [a (le (v I 0) (v I 2))])
 (.ret [a (k false)])
def ZdS:Tr:=.ret [a (eq (v I 0) (c 7))]
def ZdT:Tr:=.join
 (.ite (eq (v I 0) (c 0))
 (.call Zbt [a (v I 1),a (c (-9999)),a (c 9999)] 100512
 (.ite (v B 100512)
 (.ite (eq (v I 2) (c 0))
 (.ite (eq (v I 3) (c 0))
 (.ret [a (c 1)])
 (.jump 0 [a (v (L I) 4),a (v I 5),a (v I 0),a (v I 1),a (v I 2),a (v I 3)]))
 (.jump 0 [a (v (L I) 4),a (v I 5),a (v I 0),a (v I 1),a (v I 2),a (v I 3)]))
 (.jump 0 [a (v (L I) 4),a (v I 5),a (v I 0),a (v I 1),a (v I 2),a (v I 3)])))
 (.jump 0 [a (v (L I) 4),a (v I 5),a (v I 0),a (v I 1),a (v I 2),a (v I 3)]))
 (.join
 (.ite (eq (v I 2) (c 1))
 (.call Zbt [a (v I 3),a (c 0),a (sub (v I 1) (c 1))] 519
 (.ite (v B 519)
 (.ite (eq (v I 4) (c 0))
 (.ite (eq (v I 5) (c 0))
 (.ret [a (c 1)])
 (.jump 0 [a (v (L I) 0),a (v I 2),a (v I 3),a (v I 4),a (v I 5)]))
 (.jump 0 [a (v (L I) 0),a (v I 2),a (v I 3),a (v I 4),a (v I 5)]))
 (.jump 0 [a (v (L I) 0),a (v I 2),a (v I 3),a (v I 4),a (v I 5)])))
 (.jump 0 [a (v (L I) 0),a (v I 2),a (v I 3),a (v I 4),a (v I 5)]))
 (.call Zbt [a (v I 1),a (c 2),a (c 9)] 134
 (.ite (nt (v B 134))
 (.ret [a (c 0)])
 (.ite (ne (v I 2) (c 0))
 (.ret [a (c 0)])
 (.call Zbt [a (v I 3),a (c 0),a (sub (ln (v (L I) 0)) (c 1))] 966
 (.ite (nt (v B 966))
 (.ret [a (c 0)])
 (.call Zbt [a (v I 4),a (c 0),a (sub (ln (v (L I) 0)) (c 1))] 1542
 (.ite (nt (v B 1542))
 (.ret [a (c 0)])
 (.join
 (.ite (ge (v I 1) (c 7))
 (.jump 0 [a (v (L I) 0),a (c 2),a (v I 1),a (v I 2),a (v I 3),a (v I 4)])
 (.jump 0 [a (v (L I) 0),a (c 1),a (v I 1),a (v I 2),a (v I 3),a (v I 4)]))
 (.join
 (.guard (le (c 0) (v I 4))
 (.guard (lt (v I 4) (ln (v (L I) 0)))
 (.ite (ne (ix (v (L I) 0) (v I 4)) (v I 1))
 (.ret [a (c 0)])
 (.guard (le (c 0) (v I 5))
 (.guard (lt (v I 5) (ln (v (L I) 0)))
 (.ite (ne (ix (v (L I) 0) (v I 5)) (v I 1))
 (.ret [a (c 0)])
 (.call Zbu [a (v I 2)] 1223
 (.ite (v B 1223)
 (.ite (ne (v I 5) (v I 4))
 (.ret [a (c 0)])
 (.jump 0 [a (v I 2),a (v I 3),a (v I 4),a (v I 5)]))
 (.jump 0 [a (v I 2),a (v I 3),a (v I 4),a (v I 5)])))))))))
 (.ite (ge (v I 0) (c 5))
 (.ret [a (c 2)])
 (.ret [a (c 1)]))))))))))))
def ZdU:Tr:=.call Zbt [a (v I 1),a (c 0),a (c 5)] 100128
 (.ite (nt (v B 100128))
 (.ret [a (nl I)])
 (.call Zbt [a (ln (v (L T4) 0)),a (c 1),a (c 40)] 100448
 (.ite (nt (v B 100448))
 (.ret [a (nl I)])
 (.loop [a (v (L T4) 0),a (v I 1),a (c 0),a (nl I)]
 (.ite (lt (v I 2) (ln (v (L T4) 0)))
 (.guard (le (c 0) (v I 2))
 (.guard (lt (v I 2) (ln (v (L T4) 0)))
 (.call Zbv [a (f (ix (v (L T4) 0) (v I 2))),a (f (s (ix (v (L T4) 0) (v I 2)))),a (f (s (s (ix (v (L T4) 0) (v I 2))))),a (s (s (s (ix (v (L T4) 0) (v I 2))))),a (v (L I) 3),a (v I 1)] 645
 (.ite (eq (v I 645) (c 0))
 (.ret [a (nl I)])
 (.guard (le (ln (v (L I) 3)) (c 549755813888))
 (.guard (le (ln (one (v I 645))) (c 549755813888))
 (.jump 0 [a (v (L T4) 0),a (v I 1),a (add (v I 2) (c 1)),a (app (v (L I) 3) (one (v I 645)))])))))))
 (.ret [a (v (L I) 3)]))))))
def ZdV:Tr:=.call Zbw [a (v (L T4) 0),a (v I 1)] 100192
 (.ret [a (gt (ln (v (L I) 100192)) (c 0))])
def ZdW:Tr:=.ite (ge (v I 0) (c 2))
 (.ret [a (v I 0),a (c 0),a (add (v I 2) (v I 4)),a (add (v I 3) (v I 4))])
 (.ret [a (v I 0),a (v I 1),a (v I 2),a (v I 3)])
def ZdX:Tr:=.call Zbx [a (v (L T4) 1),a (v I 3)] 100192
 (.ite (nt (v B 100192))
 (.ret [a (nl T4)])
 (.call Zbx [a (v (L T4) 2),a (v I 3)] 100512
 (.ite (nt (v B 100512))
 (.ret [a (nl T4)])
 (.loop [a (v I 0),a (v (L T4) 1),a (v (L T4) 2),a (v I 3),a (c 0),a (nl T4)]
 (.ite (lt (v I 4) (ln (v (L T4) 1)))
 (.guard (le (c 0) (v I 4))
 (.guard (lt (v I 4) (ln (v (L T4) 1)))
 (.guard (le (ln (v (L T4) 5)) (c 549755813888))
 (.guard (le (ln (one (pr (f (ix (v (L T4) 1) (v I 4))) (pr (f (s (ix (v (L T4) 1) (v I 4)))) (pr (f (s (s (ix (v (L T4) 1) (v I 4))))) (s (s (s (ix (v (L T4) 1) (v I 4)))))))))) (c 549755813888))
 (.jump 0 [a (v I 0),a (v (L T4) 1),a (v (L T4) 2),a (v I 3),a (add (v I 4) (c 1)),a (app (v (L T4) 5) (one (pr (f (ix (v (L T4) 1) (v I 4))) (pr (f (s (ix (v (L T4) 1) (v I 4)))) (pr (f (s (s (ix (v (L T4) 1) (v I 4))))) (s (s (s (ix (v (L T4) 1) (v I 4))))))))))])))))
 (.join
 (.loop [a (v I 0),a (v (L T4) 1),a (v (L T4) 2),a (v I 3),a (c 0),a (v (L T4) 5)]
 (.ite (lt (v I 4) (ln (v (L T4) 2)))
 (.call Zbu [a (v I 0)] 391
 (.ite (nt (v B 391))
 (.guard (le (c 0) (v I 4))
 (.guard (lt (v I 4) (ln (v (L T4) 2)))
 (.call Zby [a (f (ix (v (L T4) 2) (v I 4))),a (f (s (ix (v (L T4) 2) (v I 4)))),a (f (s (s (ix (v (L T4) 2) (v I 4))))),a (s (s (s (ix (v (L T4) 2) (v I 4))))),a (ln (v (L T4) 1))] 1031
 (.guard (le (ln (v (L T4) 5)) (c 549755813888))
 (.guard (le (ln (one (pr (v I 1031) (pr (v I 1032) (pr (v I 1033) (v I 1034)))))) (c 549755813888))
 (.jump 0 [a (v I 0),a (v (L T4) 1),a (v (L T4) 2),a (v I 3),a (add (v I 4) (c 1)),a (app (v (L T4) 5) (one (pr (v I 1031) (pr (v I 1032) (pr (v I 1033) (v I 1034))))))]))))))
 (.jump 1 [a (v I 0),a (v (L T4) 1),a (v I 3),a (v (L T4) 5)])))
 (.jump 1 [a (v I 0),a (v (L T4) 1),a (v I 3),a (v (L T4) 5)])))
 (.guard (le (ln (v (L T4) 3)) (c 549755813888))
 (.guard (le (ln (one (pr (v I 0) (pr (c 0) (pr (sub (ln (v (L T4) 1)) (c 1)) (sub (ln (v (L T4) 3)) (c 1))))))) (c 549755813888))
 (.ite (lt (v I 0) (c 2))
 (.ret [a (nl T4)])
 (.call Zbx [a (app (v (L T4) 3) (one (pr (v I 0) (pr (c 0) (pr (sub (ln (v (L T4) 1)) (c 1)) (sub (ln (v (L T4) 3)) (c 1))))))),a (v I 2)] 1093
 (.ite (nt (v B 1093))
 (.ret [a (nl T4)])
 (.ret [a (app (v (L T4) 3) (one (pr (v I 0) (pr (c 0) (pr (sub (ln (v (L T4) 1)) (c 1)) (sub (ln (v (L T4) 3)) (c 1)))))))]))))))))))))
def ZdY:Tr:=.call ZI [a (pr (f (v (P (L U) I) 0)) (s (v (P (L U) I) 0))),a (ln (v (L V3) 1))] 100256
 (.guard (le (c 0) (v I 100256))
 (.guard (lt (v I 100256) (ln (v (L V3) 1)))
 (.call Zbs [a (pr (f (v (P (L U) I) 0)) (s (v (P (L U) I) 100257))),a (f (ix (v (L V3) 1) (v I 100256))),a (f (s (ix (v (L V3) 1) (v I 100256)))),a (s (s (ix (v (L V3) 1) (v I 100256)))),a (v I 100256)] 100768
 (.join
 (.call ZI [a (pr (f (v (P (L U) I) 0)) (s (v (P (L U) I) 100769))),a (c 2)] 100960
 (.ite (eq (v I 100960) (c 0))
 (.call ZI [a (pr (f (v (P (L U) I) 0)) (s (v (P (L U) I) 100961))),a (ln (v (L V3) 1))] 101280
 (.guard (le (c 0) (v I 101280))
 (.guard (lt (v I 101280) (ln (v (L V3) 1)))
 (.call Zbp [a (pr (f (v (P (L U) I) 0)) (s (v (P (L U) I) 101281))),a (app (one (c 8)) (app (one (c 9)) (one (c 8))))] 102048
 (.call Zbs [a (pr (f (v (P (L U) I) 0)) (s (v (P (L U) I) 102049))),a (f (ix (v (L V3) 1) (v I 101280))),a (f (s (ix (v (L V3) 1) (v I 101280)))),a (s (s (ix (v (L V3) 1) (v I 101280)))),a (v I 101280)] 102176
 (.call Zbz [a (v I 102048),a (v (L T4) 100768),a (v (L T4) 102176),a (ln (v (L V3) 1))] 102240
 (.join
 (.jump 0 [a (f (v (P (L U) I) 0)),a (s (v (P (L U) I) 102177)),a (v (L T4) 102240)])
 (.jump 0 [a (v (L U) 0),a (v I 1),a (v (L T4) 2)]))))))))
 (.jump 0 [a (f (v (P (L U) I) 0)),a (s (v (P (L U) I) 100961)),a (v (L T4) 100768)])))
 (.ret [a (v (L T4) 2),a (pr (v (L U) 0) (v I 1))])))))
def ZdZ:Tr:=.call ZI [a (pr (f (v (P (L U) I) 0)) (s (v (P (L U) I) 0))),a (c 4)] 100192
 (.call ZI [a (pr (f (v (P (L U) I) 0)) (s (v (P (L U) I) 100193))),a (c 4)] 100320
 (.call ZI [a (pr (f (v (P (L U) I) 0)) (s (v (P (L U) I) 100321))),a (c 7)] 100448
 (.call ZI [a (pr (f (v (P (L U) I) 0)) (s (v (P (L U) I) 100449))),a (c 200)] 100640
 (.call ZI [a (pr (f (v (P (L U) I) 0)) (s (v (P (L U) I) 100641))),a (c 4)] 100896
 (.guard (le (c 0) (v I 100896))
 (.guard (lt (v I 100896) (ln (app (one (c 9999)) (app (one (c (-9999))) (app (one (c 5000)) (one (c 100)))))))
 (.call Zbp [a (pr (f (v (P (L U) I) 0)) (s (v (P (L U) I) 100897))),a (app (one (v I 100192)) (app (one (v I 100320)) (app (one (sub (v I 100448) (c 3))) (app (one (c 1)) (app (one (c 0)) (app (one (sub (v I 100640) (c 100))) (one (ix (app (one (c 9999)) (app (one (c (-9999))) (app (one (c 5000)) (one (c 100))))) (v I 100896)))))))))] 101152
 (.ret [a (v I 101152),a (pr (f (v (P (L U) I) 0)) (s (v (P (L U) I) 101153)))]))))))))
def Zd_:Tr:=.call ZI [a (pr (f (v (P (L U) I) 0)) (s (v (P (L U) I) 0))),a (ln (v (L I) 1))] 100256
 (.loop [a (v (L I) 1),a (v I 2),a (v I 100256),a (c 0),a (f (v (P (L U) I) 0)),a (s (v (P (L U) I) 100257))]
 (.ite (lt (v I 3) (ln (v (L I) 0)))
 (.guard (ne (ln (v (L I) 0)) (c 0))
 (.guard (le (c 0) (rem (add (v I 2) (v I 3)) (ln (v (L I) 0))))
 (.guard (lt (rem (add (v I 2) (v I 3)) (ln (v (L I) 0))) (ln (v (L I) 0)))
 (.ite (eq (ix (v (L I) 0) (rem (add (v I 2) (v I 3)) (ln (v (L I) 0)))) (v I 1))
 (.ret [a (rem (add (v I 2) (v I 3)) (ln (v (L I) 0))),a (pr (v (L U) 4) (v I 5))])
 (.jump 0 [a (v (L I) 0),a (v I 1),a (v I 2),a (add (v I 3) (c 1)),a (v (L U) 4),a (v I 5)])))))
 (.ret [a (c (-1)),a (pr (v (L U) 4) (v I 5))])))
def Ze0:Tr:=.call ZI [a (pr (f (v (P (L U) I) 0)) (s (v (P (L U) I) 0))),a (v I 3)] 100448
 (.loop [a (v I 1),a (v I 2),a (add (c 2) (v I 100448)),a (f (v (P (L U) I) 0)),a (s (v (P (L U) I) 100449)),a (nl T4),a (nl I)]
 (.ite (gt (v I 2) (c 0))
 (.join
 (.call Zbp [a (pr (v (L U) 3) (v I 4)),a (app (one (c 0)) (app (one (c 1)) (app (one (c 1)) (app (one (c 2)) (app (one (c 3)) (app (one (c 4)) (app (one (c 5)) (app (one (c 6)) (app (one (c 5)) (app (one (c 6)) (app (one (c 7)) (app (one (c 8)) (one (c 9))))))))))))))] 266
 (.join
 (.ite (eq (ln (v (L T4) 5)) (c 0))
 (.call ZbB [a (pr (v (L U) 3) (s (v (P (L U) I) 267)))] 1162
 (.ite (gt (v I 0) (c 0))
 (.ite (ne (v I 266) (c 0))
 (.call ZI [a (pr (v (L U) 3) (s (v (P (L U) I) 1163))),a (v I 0)] 1866
 (.jump 0 [a (v I 0),a (v I 1),a (v I 2),a (v (L U) 3),a (s (v (P (L U) I) 1867)),a (v (L T4) 5),a (v (L I) 6),a (c 1),a (v I 1866),a (c 0),a (c 0)]))
 (.jump 0 [a (v I 0),a (v I 1),a (v I 2),a (v (L U) 3),a (s (v (P (L U) I) 1163)),a (v (L T4) 5),a (v (L I) 6),a (c 0),a (v I 1162),a (c 0),a (c 0)]))
 (.jump 0 [a (v I 0),a (v I 1),a (v I 2),a (v (L U) 3),a (s (v (P (L U) I) 1163)),a (v (L T4) 5),a (v (L I) 6),a (c 0),a (v I 1162),a (c 0),a (c 0)])))
 (.ite (lt (v I 266) (c 2))
 (.call ZbB [a (pr (v (L U) 3) (s (v (P (L U) I) 267)))] 1162
 (.ite (gt (v I 0) (c 0))
 (.ite (ne (v I 266) (c 0))
 (.call ZI [a (pr (v (L U) 3) (s (v (P (L U) I) 1163))),a (v I 0)] 1866
 (.jump 0 [a (v I 0),a (v I 1),a (v I 2),a (v (L U) 3),a (s (v (P (L U) I) 1867)),a (v (L T4) 5),a (v (L I) 6),a (c 1),a (v I 1866),a (c 0),a (c 0)]))
 (.jump 0 [a (v I 0),a (v I 1),a (v I 2),a (v (L U) 3),a (s (v (P (L U) I) 1163)),a (v (L T4) 5),a (v (L I) 6),a (c 0),a (v I 1162),a (c 0),a (c 0)]))
 (.jump 0 [a (v I 0),a (v I 1),a (v I 2),a (v (L U) 3),a (s (v (P (L U) I) 1163)),a (v (L T4) 5),a (v (L I) 6),a (c 0),a (v I 1162),a (c 0),a (c 0)])))
 (.join
 (.ite (ge (v I 266) (c 7))
 (.jump 0 [a (v I 0),a (v I 1),a (v I 2),a (v I 266),a (c 2),a (v (L U) 3),a (s (v (P (L U) I) 267)),a (v (L T4) 5),a (v (L I) 6),a (v I 266),a (c 0),a (c 0),a (c 0)])
 (.jump 0 [a (v I 0),a (v I 1),a (v I 2),a (v I 266),a (c 1),a (v (L U) 3),a (s (v (P (L U) I) 267)),a (v (L T4) 5),a (v (L I) 6),a (v I 266),a (c 0),a (c 0),a (c 0)]))
 (.call ZbC [a (pr (v (L U) 5) (v I 6)),a (v (L I) 8),a (v I 4)] 209
 (.call ZbC [a (pr (v (L U) 5) (s (v (P (L U) I) 210))),a (v (L I) 8),a (v I 4)] 593
 (.call Zbu [a (v I 3)] 849
 (.ite (v B 849)
 (.jump 0 [a (v I 0),a (v I 1),a (v I 2),a (v (L U) 5),a (s (v (P (L U) I) 594)),a (v (L T4) 7),a (v (L I) 8),a (v I 9),a (v I 10),a (v I 209),a (v I 209)])
 (.jump 0 [a (v I 0),a (v I 1),a (v I 2),a (v (L U) 5),a (s (v (P (L U) I) 594)),a (v (L T4) 7),a (v (L I) 8),a (v I 9),a (v I 10),a (v I 209),a (v I 593)]))))))))
 (.call Zbv [a (v I 7),a (v I 8),a (v I 9),a (v I 10),a (v (L I) 6),a (v I 0)] 207
 (.ite (ne (v I 207) (c 0))
 (.guard (le (ln (v (L T4) 5)) (c 549755813888))
 (.guard (le (ln (one (pr (v I 7) (pr (v I 8) (pr (v I 9) (v I 10)))))) (c 549755813888))
 (.guard (le (ln (v (L I) 6)) (c 549755813888))
 (.guard (le (ln (one (v I 207))) (c 549755813888))
 (.jump 0 [a (v I 0),a (v I 1),a (v I 2),a (v (L U) 3),a (v I 4),a (app (v (L T4) 5) (one (pr (v I 7) (pr (v I 8) (pr (v I 9) (v I 10)))))),a (app (v (L I) 6) (one (v I 207)))])))))
 (.jump 0 [a (v I 0),a (v I 1),a (v I 2),a (v (L U) 3),a (v I 4),a (v (L T4) 5),a (v (L I) 6)])))))
 (.jump 0 [a (v I 0),a (v I 1),a (sub (v I 2) (c 1)),a (v (L U) 3),a (v I 4),a (v (L T4) 5),a (v (L I) 6)]))
 (.join
 (.ite (eq (ln (v (L T4) 5)) (c 0))
 (.guard (le (ln (v (L T4) 5)) (c 549755813888))
 (.guard (le (ln (one (pr (c 0) (pr (c 1) (pr (c 0) (c 0)))))) (c 549755813888))
 (.guard (le (ln (v (L I) 6)) (c 549755813888))
 (.guard (le (ln (one (c 1))) (c 549755813888))
 (.jump 0 [a (v I 1),a (v (L U) 3),a (v I 4),a (app (v (L T4) 5) (one (pr (c 0) (pr (c 1) (pr (c 0) (c 0)))))),a (app (v (L I) 6) (one (c 1)))])))))
 (.jump 0 [a (v I 1),a (v (L U) 3),a (v I 4),a (v (L T4) 5),a (v (L I) 6)]))
 (.join
 (.ite (eq (v I 0) (c 2))
 (.guard (le (c 0) (sub (ln (v (L T4) 3)) (c 1)))
 (.guard (lt (sub (ln (v (L T4) 3)) (c 1)) (ln (v (L I) 4)))
 (.ite (ne (ix (v (L I) 4) (sub (ln (v (L T4) 3)) (c 1))) (v I 0))
 (.call Zbp [a (pr (v (L U) 1) (v I 2)),a (app (one (c 5)) (one (c 6)))] 1096
 (.call ZbC [a (pr (v (L U) 1) (s (v (P (L U) I) 1097))),a (v (L I) 4),a (c 1)] 1352
 (.guard (le (ln (v (L T4) 3)) (c 549755813888))
 (.guard (le (ln (one (pr (v I 1096) (pr (c 0) (pr (sub (ln (v (L T4) 3)) (c 1)) (v I 1352)))))) (c 549755813888))
 (.jump 0 [a (v (L U) 1),a (s (v (P (L U) I) 1353)),a (app (v (L T4) 3) (one (pr (v I 1096) (pr (c 0) (pr (sub (ln (v (L T4) 3)) (c 1)) (v I 1352))))))])))))
 (.ite (eq (v I 0) (c 1))
 (.guard (le (c 0) (sub (ln (v (L T4) 3)) (c 1)))
 (.guard (lt (sub (ln (v (L T4) 3)) (c 1)) (ln (v (L I) 4)))
 (.ite (ne (ix (v (L I) 4) (sub (ln (v (L T4) 3)) (c 1))) (v I 0))
 (.call ZbC [a (pr (v (L U) 1) (v I 2)),a (v (L I) 4),a (c 1)] 1672
 (.call Zbp [a (pr (v (L U) 1) (s (v (P (L U) I) 1673))),a (app (one (c 2)) (one (c 3)))] 1992
 (.call ZbC [a (pr (v (L U) 1) (s (v (P (L U) I) 1993))),a (v (L I) 4),a (c 1)] 2248
 (.guard (le (ln (v (L T4) 3)) (c 549755813888))
 (.guard (le (ln (one (pr (v I 1992) (pr (c 0) (pr (v I 1672) (v I 2248)))))) (c 549755813888))
 (.jump 0 [a (v (L U) 1),a (s (v (P (L U) I) 2249)),a (app (v (L T4) 3) (one (pr (v I 1992) (pr (c 0) (pr (v I 1672) (v I 2248))))))]))))))
 (.jump 0 [a (v (L U) 1),a (v I 2),a (v (L T4) 3)]))))
 (.jump 0 [a (v (L U) 1),a (v I 2),a (v (L T4) 3)])))))
 (.ite (eq (v I 0) (c 1))
 (.guard (le (c 0) (sub (ln (v (L T4) 3)) (c 1)))
 (.guard (lt (sub (ln (v (L T4) 3)) (c 1)) (ln (v (L I) 4)))
 (.ite (ne (ix (v (L I) 4) (sub (ln (v (L T4) 3)) (c 1))) (v I 0))
 (.call ZbC [a (pr (v (L U) 1) (v I 2)),a (v (L I) 4),a (c 1)] 1672
 (.call Zbp [a (pr (v (L U) 1) (s (v (P (L U) I) 1673))),a (app (one (c 2)) (one (c 3)))] 1992
 (.call ZbC [a (pr (v (L U) 1) (s (v (P (L U) I) 1993))),a (v (L I) 4),a (c 1)] 2248
 (.guard (le (ln (v (L T4) 3)) (c 549755813888))
 (.guard (le (ln (one (pr (v I 1992) (pr (c 0) (pr (v I 1672) (v I 2248)))))) (c 549755813888))
 (.jump 0 [a (v (L U) 1),a (s (v (P (L U) I) 2249)),a (app (v (L T4) 3) (one (pr (v I 1992) (pr (c 0) (pr (v I 1672) (v I 2248))))))]))))))
 (.jump 0 [a (v (L U) 1),a (v I 2),a (v (L T4) 3)]))))
 (.jump 0 [a (v (L U) 1),a (v I 2),a (v (L T4) 3)])))
 (.ret [a (v (L T4) 2),a (pr (v (L U) 0) (v I 1))])))))
def Ze1:Tr:=.call ZI [a (pr (f (v (P (L U) I) 0)) (s (v (P (L U) I) 0))),a (c 6)] 100128
 (.ite (lt (v I 100128) (c 3))
 (.call Zbq [a (v I 2)] 100448
 (.call Zbr [a (c 1)] 100512
 (.call Zbp [a (pr (f (v (P (L U) I) 0)) (s (v (P (L U) I) 100129))),a (app (one (c 2)) (one (c 3)))] 100704
 (.ret [a (app (one (pr (v I 100448) (pr (v I 100449) (pr (v I 100450) (v I 100451))))) (app (one (pr (v I 100512) (pr (v I 100513) (pr (v I 100514) (v I 100515))))) (one (pr (v I 100704) (pr (c 0) (pr (c 0) (c 1))))))),a (pr (f (v (P (L U) I) 0)) (s (v (P (L U) I) 100705)))]))))
 (.ite (eq (v I 100128) (c 3))
 (.guard (le (c 0) (v I 2))
 (.guard (lt (v I 2) (ln (v (L V3) 1)))
 (.guard (le (c 0) (v I 2))
 (.guard (lt (v I 2) (ln (v (L V3) 1)))
 (.guard (le (c 0) (v I 2))
 (.guard (lt (v I 2) (ln (v (L V3) 1)))
 (.call ZI [a (pr (f (v (P (L U) I) 0)) (s (v (P (L U) I) 100129))),a (add (sub (f (s (ix (v (L V3) 1) (v I 2)))) (f (ix (v (L V3) 1) (v I 2)))) (c 1))] 101664
 (.call Zbr [a (add (f (ix (v (L V3) 1) (v I 2))) (v I 101664))] 101792
 (.join
 (.jump 0 [a (f (v (P (L U) I) 0)),a (s (v (P (L U) I) 101665)),a (one (pr (v I 101792) (pr (v I 101793) (pr (v I 101794) (v I 101795)))))])
 (.ret [a (v (L T4) 2),a (pr (v (L U) 0) (v I 1))]))))))))))
 (.ite (eq (v I 100128) (c 4))
 (.call ZI [a (pr (f (v (P (L U) I) 0)) (s (v (P (L U) I) 100129))),a (ln (v (L V3) 1))] 100832
 (.call Zbq [a (v I 100832)] 100896
 (.ret [a (one (pr (v I 100896) (pr (v I 100897) (pr (v I 100898) (v I 100899))))),a (pr (f (v (P (L U) I) 0)) (s (v (P (L U) I) 100833)))])))
 (.call ZbD [a (pr (f (v (P (L U) I) 0)) (s (v (P (L U) I) 100129))),a (ln (v (L V3) 1)),a (c 1),a (c 5)] 100832
 (.ret [a (v (L T4) 100832),a (pr (f (v (P (L U) I) 0)) (s (v (P (L U) I) 100833)))])))))
def Ze2:Tr:=.loop [a (v (L V3) 1),a (v I 2),a (c 0),a (f (v (P (L U) I) 0)),a (s (v (P (L U) I) 0)),a (nl TR)]
 (.ite (lt (v I 2) (v I 1))
 (.call ZbA [a (pr (v (L U) 3) (v I 4)),a (v (L V3) 0)] 328
 (.loop [a (v (L V3) 0),a (v I 1),a (v I 2),a (c 0),a (v (L U) 3),a (s (v (P (L U) I) 329)),a (v (L TR) 5),a (v (L T4) 328),a (nl I),a (nl (L T4))]
 (.ite (lt (v I 3) (ln (v (L V3) 0)))
 (.join
 (.call ZI [a (pr (v (L U) 4) (v I 5)),a (add (ln (v (L V3) 0)) (c 1))] 528
 (.ite (lt (v I 528) (c 1))
 (.guard (le (ln (v (L I) 8)) (c 549755813888))
 (.guard (le (ln (one (v I 3))) (c 549755813888))
 (.call ZbE [a (pr (v (L U) 4) (s (v (P (L U) I) 529))),a (v (L V3) 0),a (v I 3)] 2576
 (.guard (le (ln (v (L (L T4)) 9)) (c 549755813888))
 (.guard (le (ln (one (v (L T4) 2576))) (c 549755813888))
 (.join
 (.jump 0 [a (v (L V3) 0),a (v I 1),a (v I 2),a (v I 3),a (v (L U) 4),a (s (v (P (L U) I) 2577)),a (v (L TR) 6),a (v (L T4) 7),a (app (v (L I) 8) (one (v I 3))),a (app (v (L (L T4)) 9) (one (v (L T4) 2576)))])
 (.jump 0 [a (v (L V3) 0),a (v I 1),a (v I 2),a (v I 3),a (v (L U) 4),a (v I 5),a (v (L TR) 6),a (v (L T4) 7),a (v (L I) 8),a (v (L (L T4)) 9)])))))))
 (.ite (eq (v I 3) (sub (ln (v (L V3) 0)) (c 1)))
 (.ite (eq (ln (v (L I) 8)) (c 0))
 (.call ZI [a (pr (v (L U) 4) (s (v (P (L U) I) 529))),a (c 9)] 1552
 (.ite (gt (v I 1552) (c 0))
 (.guard (le (ln (v (L I) 8)) (c 549755813888))
 (.guard (le (ln (one (v I 3))) (c 549755813888))
 (.call ZbE [a (pr (v (L U) 4) (s (v (P (L U) I) 1553))),a (v (L V3) 0),a (v I 3)] 2576
 (.guard (le (ln (v (L (L T4)) 9)) (c 549755813888))
 (.guard (le (ln (one (v (L T4) 2576))) (c 549755813888))
 (.join
 (.jump 0 [a (v (L V3) 0),a (v I 1),a (v I 2),a (v I 3),a (v (L U) 4),a (s (v (P (L U) I) 2577)),a (v (L TR) 6),a (v (L T4) 7),a (app (v (L I) 8) (one (v I 3))),a (app (v (L (L T4)) 9) (one (v (L T4) 2576)))])
 (.jump 0 [a (v (L V3) 0),a (v I 1),a (v I 2),a (v I 3),a (v (L U) 4),a (v I 5),a (v (L TR) 6),a (v (L T4) 7),a (v (L I) 8),a (v (L (L T4)) 9)])))))))
 (.jump 0 [a (v (L V3) 0),a (v I 1),a (v I 2),a (v I 3),a (v (L U) 4),a (s (v (P (L U) I) 1553)),a (v (L TR) 6),a (v (L T4) 7),a (v (L I) 8),a (v (L (L T4)) 9)])))
 (.jump 0 [a (v (L V3) 0),a (v I 1),a (v I 2),a (v I 3),a (v (L U) 4),a (s (v (P (L U) I) 529)),a (v (L TR) 6),a (v (L T4) 7),a (v (L I) 8),a (v (L (L T4)) 9)]))
 (.jump 0 [a (v (L V3) 0),a (v I 1),a (v I 2),a (v I 3),a (v (L U) 4),a (s (v (P (L U) I) 529)),a (v (L TR) 6),a (v (L T4) 7),a (v (L I) 8),a (v (L (L T4)) 9)]))))
 (.jump 0 [a (v (L V3) 0),a (v I 1),a (v I 2),a (add (v I 3) (c 1)),a (v (L U) 4),a (v I 5),a (v (L TR) 6),a (v (L T4) 7),a (v (L I) 8),a (v (L (L T4)) 9)]))
 (.guard (le (ln (v (L TR) 6)) (c 549755813888))
 (.guard (le (ln (one (pr (v (L T4) 7) (pr (v (L I) 8) (v (L (L T4)) 9))))) (c 549755813888))
 (.jump 1 [a (v (L V3) 0),a (v I 1),a (add (v I 2) (c 1)),a (v (L U) 4),a (v I 5),a (app (v (L TR) 6) (one (pr (v (L T4) 7) (pr (v (L I) 8) (v (L (L T4)) 9)))))]))))))
 (.ret [a (v (L TR) 5),a (pr (v (L U) 3) (v I 4))]))
def Ze3:Tr:=.call ZI [a (pr (f (v (P (L U) I) 0)) (s (v (P (L U) I) 0))),a (c 3)] 100384
 (.loop [a (v I 1),a (c 1),a (add (c 1) (v I 100384)),a (f (v (P (L U) I) 0)),a (s (v (P (L U) I) 100385)),a (nl V3)]
 (.ite (gt (v I 2) (c 0))
 (.join
 (.call Zbp [a (pr (v (L U) 3) (v I 4)),a (app (one (c 2)) (app (one (c 3)) (app (one (c 2)) (app (one (c 4)) (one (c 5))))))] 266
 (.ite (le (mul (v I 1) (v I 266)) (v I 0))
 (.call Zbp [a (pr (v (L U) 3) (s (v (P (L U) I) 267))),a (app (one (c 0)) (app (one (c 0)) (app (one (c 0)) (app (one (c (-1))) (one (c 2))))))] 842
 (.call ZI [a (pr (v (L U) 3) (s (v (P (L U) I) 843))),a (v I 266)] 1610
 (.guard (le (ln (v (L V3) 5)) (c 549755813888))
 (.guard (le (ln (one (pr (v I 842) (pr (sub (add (v I 842) (v I 266)) (c 1)) (add (v I 842) (v I 1610)))))) (c 549755813888))
 (.join
 (.jump 0 [a (v I 0),a (v I 1),a (v I 2),a (v I 266),a (v (L U) 3),a (s (v (P (L U) I) 1611)),a (app (v (L V3) 5) (one (pr (v I 842) (pr (sub (add (v I 842) (v I 266)) (c 1)) (add (v I 842) (v I 1610))))))])
 (.jump 0 [a (v I 0),a (mul (v I 1) (v I 3)),a (v I 2),a (v (L U) 4),a (v I 5),a (v (L V3) 6)]))))))
 (.jump 0 [a (v I 0),a (v I 1),a (v I 2),a (v (L U) 3),a (s (v (P (L U) I) 267)),a (v (L V3) 5)])))
 (.jump 0 [a (v I 0),a (v I 1),a (sub (v I 2) (c 1)),a (v (L U) 3),a (v I 4),a (v (L V3) 5)]))
 (.join
 (.ite (eq (ln (v (L V3) 5)) (c 0))
 (.guard (le (ln (v (L V3) 5)) (c 549755813888))
 (.guard (le (ln (one (pr (c 0) (pr (c 1) (c 0))))) (c 549755813888))
 (.jump 0 [a (v (L U) 3),a (v I 4),a (app (v (L V3) 5) (one (pr (c 0) (pr (c 1) (c 0)))))])))
 (.jump 0 [a (v (L U) 3),a (v I 4),a (v (L V3) 5)]))
 (.call Zbp [a (pr (v (L U) 0) (v I 1)),a (app (one (c 1)) (app (one (c 2)) (app (one (c 3)) (app (one (c 4)) (app (one (c 2)) (app (one (c 3)) (one (c 0))))))))] 327
 (.call ZbF [a (pr (v (L U) 0) (s (v (P (L U) I) 328))),a (v (L V3) 2),a (v I 327)] 391
 (.join
 (.jump 0 [a (v (L U) 0),a (s (v (P (L U) I) 392)),a (v (L V3) 2),a (v (L TR) 391)])
 (.ret [a (v (L V3) 2),a (v (L TR) 3),a (pr (v (L U) 0) (v I 1))])))))))
def Ze4:Tr:=.call ZbG [a (pr (f (v (P (L U) I) 0)) (s (v (P (L U) I) 0))),a (v I 1)] 100192
 (.join
 (.call ZI [a (pr (f (v (P (L U) I) 0)) (s (v (P (L U) I) 100194))),a (c 14)] 100448
 (.ite (eq (v I 100448) (c 0))
 (.call ZI [a (pr (f (v (P (L U) I) 0)) (s (v (P (L U) I) 100449))),a (c 6)] 100640
 (.ite (eq (v I 100640) (c 0))
 (.guard (lt (c 0) (ln (v (L V3) 100192)))
 (.guard (lt (c 0) (ln (v (L V3) 100192)))
 (.jump 0 [a (f (v (P (L U) I) 0)),a (s (v (P (L U) I) 100641)),a (st (v (L V3) 100192) (c 0) (pr (f (ix (v (L V3) 100192) (c 0))) (pr (f (s (ix (v (L V3) 100192) (c 0)))) (add (f (s (ix (v (L V3) 100192) (c 0)))) (c 1))))),a (v (L TR) 100193)])))
 (.ite (eq (v I 100640) (c 1))
 (.guard (lt (c 0) (ln (v (L V3) 100192)))
 (.call Zbp [a (pr (f (v (P (L U) I) 0)) (s (v (P (L U) I) 100641))),a (app (one (c (-1))) (app (one (c 20)) (one (c 19))))] 101600
 (.guard (lt (c 0) (ln (v (L V3) 100192)))
 (.join
 (.jump 0 [a (f (v (P (L U) I) 0)),a (s (v (P (L U) I) 101601)),a (st (v (L V3) 100192) (c 0) (pr (f (ix (v (L V3) 100192) (c 0))) (pr (add (f (ix (v (L V3) 100192) (c 0))) (v I 101600)) (s (s (ix (v (L V3) 100192) (c 0))))))),a (v (L TR) 100193)])
 (.jump 0 [a (v (L U) 0),a (v I 1),a (v (L V3) 2),a (v (L TR) 3)])))))
 (.ite (eq (v I 100640) (c 2))
 (.ite (gt (ln (v (L TR) 100193)) (c 0))
 (.call Zbr [a (c 1)] 101664
 (.guard (lt (c 0) (ln (v (L TR) 100193)))
 (.jump 0 [a (f (v (P (L U) I) 0)),a (s (v (P (L U) I) 100641)),a (v (L V3) 100192),a (st (v (L TR) 100193) (c 0) (pr (one (pr (v I 101664) (pr (v I 101665) (pr (v I 101666) (v I 101667))))) (s (ix (v (L TR) 100193) (c 0)))))])))
 (.ite (eq (v I 100640) (c 3))
 (.ite (gt (ln (v (L TR) 100193)) (c 0))
 (.guard (lt (c 0) (ln (v (L TR) 100193)))
 (.guard (le (ln (f (s (ix (v (L TR) 100193) (c 0))))) (c 549755813888))
 (.guard (le (ln (one (ln (v (L V3) 100192)))) (c 549755813888))
 (.guard (lt (c 0) (ln (v (L TR) 100193)))
 (.join
 (.jump 0 [a (f (v (P (L U) I) 0)),a (s (v (P (L U) I) 100641)),a (v (L V3) 100192),a (st (v (L TR) 100193) (c 0) (pr (f (ix (v (L TR) 100193) (c 0))) (pr (app (f (s (ix (v (L TR) 100193) (c 0)))) (one (ln (v (L V3) 100192)))) (s (s (ix (v (L TR) 100193) (c 0)))))))])
 (.jump 0 [a (v (L U) 0),a (v I 1),a (v (L V3) 2),a (v (L TR) 3)]))))))
 (.ite (eq (v I 100640) (c 4))
 (.jump 0 [a (f (v (P (L U) I) 0)),a (s (v (P (L U) I) 100641)),a (nl V3),a (v (L TR) 100193)])
 (.ite (gt (ln (v (L TR) 100193)) (c 0))
 (.guard (lt (c 0) (ln (v (L TR) 100193)))
 (.call Zbr [a (c 0)] 102880
 (.guard (le (ln (s (s (ix (v (L TR) 100193) (c 0))))) (c 549755813888))
 (.guard (le (ln (one (one (pr (v I 102880) (pr (v I 102881) (pr (v I 102882) (v I 102883))))))) (c 549755813888))
 (.guard (lt (c 0) (ln (v (L TR) 100193)))
 (.join
 (.jump 0 [a (f (v (P (L U) I) 0)),a (s (v (P (L U) I) 100641)),a (v (L V3) 100192),a (st (v (L TR) 100193) (c 0) (pr (f (ix (v (L TR) 100193) (c 0))) (pr (f (s (ix (v (L TR) 100193) (c 0)))) (app (s (s (ix (v (L TR) 100193) (c 0)))) (one (one (pr (v I 102880) (pr (v I 102881) (pr (v I 102882) (v I 102883))))))))))])
 (.jump 0 [a (v (L U) 0),a (v I 1),a (v (L V3) 2),a (v (L TR) 3)])))))))
 (.jump 0 [a (f (v (P (L U) I) 0)),a (s (v (P (L U) I) 100641)),a (v (L V3) 100192),a (v (L TR) 100193)]))))
 (.ite (eq (v I 100640) (c 4))
 (.jump 0 [a (f (v (P (L U) I) 0)),a (s (v (P (L U) I) 100641)),a (nl V3),a (v (L TR) 100193)])
 (.ite (gt (ln (v (L TR) 100193)) (c 0))
 (.guard (lt (c 0) (ln (v (L TR) 100193)))
 (.call Zbr [a (c 0)] 102880
 (.guard (le (ln (s (s (ix (v (L TR) 100193) (c 0))))) (c 549755813888))
 (.guard (le (ln (one (one (pr (v I 102880) (pr (v I 102881) (pr (v I 102882) (v I 102883))))))) (c 549755813888))
 (.guard (lt (c 0) (ln (v (L TR) 100193)))
 (.join
 (.jump 0 [a (f (v (P (L U) I) 0)),a (s (v (P (L U) I) 100641)),a (v (L V3) 100192),a (st (v (L TR) 100193) (c 0) (pr (f (ix (v (L TR) 100193) (c 0))) (pr (f (s (ix (v (L TR) 100193) (c 0)))) (app (s (s (ix (v (L TR) 100193) (c 0)))) (one (one (pr (v I 102880) (pr (v I 102881) (pr (v I 102882) (v I 102883))))))))))])
 (.jump 0 [a (v (L U) 0),a (v I 1),a (v (L V3) 2),a (v (L TR) 3)])))))))
 (.jump 0 [a (f (v (P (L U) I) 0)),a (s (v (P (L U) I) 100641)),a (v (L V3) 100192),a (v (L TR) 100193)])))))
 (.ite (eq (v I 100640) (c 3))
 (.ite (gt (ln (v (L TR) 100193)) (c 0))
 (.guard (lt (c 0) (ln (v (L TR) 100193)))
 (.guard (le (ln (f (s (ix (v (L TR) 100193) (c 0))))) (c 549755813888))
 (.guard (le (ln (one (ln (v (L V3) 100192)))) (c 549755813888))
 (.guard (lt (c 0) (ln (v (L TR) 100193)))
 (.join
 (.jump 0 [a (f (v (P (L U) I) 0)),a (s (v (P (L U) I) 100641)),a (v (L V3) 100192),a (st (v (L TR) 100193) (c 0) (pr (f (ix (v (L TR) 100193) (c 0))) (pr (app (f (s (ix (v (L TR) 100193) (c 0)))) (one (ln (v (L V3) 100192)))) (s (s (ix (v (L TR) 100193) (c 0)))))))])
 (.jump 0 [a (v (L U) 0),a (v I 1),a (v (L V3) 2),a (v (L TR) 3)]))))))
 (.ite (eq (v I 100640) (c 4))
 (.jump 0 [a (f (v (P (L U) I) 0)),a (s (v (P (L U) I) 100641)),a (nl V3),a (v (L TR) 100193)])
 (.ite (gt (ln (v (L TR) 100193)) (c 0))
 (.guard (lt (c 0) (ln (v (L TR) 100193)))
 (.call Zbr [a (c 0)] 102880
 (.guard (le (ln (s (s (ix (v (L TR) 100193) (c 0))))) (c 549755813888))
 (.guard (le (ln (one (one (pr (v I 102880) (pr (v I 102881) (pr (v I 102882) (v I 102883))))))) (c 549755813888))
 (.guard (lt (c 0) (ln (v (L TR) 100193)))
 (.join
 (.jump 0 [a (f (v (P (L U) I) 0)),a (s (v (P (L U) I) 100641)),a (v (L V3) 100192),a (st (v (L TR) 100193) (c 0) (pr (f (ix (v (L TR) 100193) (c 0))) (pr (f (s (ix (v (L TR) 100193) (c 0)))) (app (s (s (ix (v (L TR) 100193) (c 0)))) (one (one (pr (v I 102880) (pr (v I 102881) (pr (v I 102882) (v I 102883))))))))))])
 (.jump 0 [a (v (L U) 0),a (v I 1),a (v (L V3) 2),a (v (L TR) 3)])))))))
 (.jump 0 [a (f (v (P (L U) I) 0)),a (s (v (P (L U) I) 100641)),a (v (L V3) 100192),a (v (L TR) 100193)]))))
 (.ite (eq (v I 100640) (c 4))
 (.jump 0 [a (f (v (P (L U) I) 0)),a (s (v (P (L U) I) 100641)),a (nl V3),a (v (L TR) 100193)])
 (.ite (gt (ln (v (L TR) 100193)) (c 0))
 (.guard (lt (c 0) (ln (v (L TR) 100193)))
 (.call Zbr [a (c 0)] 102880
 (.guard (le (ln (s (s (ix (v (L TR) 100193) (c 0))))) (c 549755813888))
 (.guard (le (ln (one (one (pr (v I 102880) (pr (v I 102881) (pr (v I 102882) (v I 102883))))))) (c 549755813888))
 (.guard (lt (c 0) (ln (v (L TR) 100193)))
 (.join
 (.jump 0 [a (f (v (P (L U) I) 0)),a (s (v (P (L U) I) 100641)),a (v (L V3) 100192),a (st (v (L TR) 100193) (c 0) (pr (f (ix (v (L TR) 100193) (c 0))) (pr (f (s (ix (v (L TR) 100193) (c 0)))) (app (s (s (ix (v (L TR) 100193) (c 0)))) (one (one (pr (v I 102880) (pr (v I 102881) (pr (v I 102882) (v I 102883))))))))))])
 (.jump 0 [a (v (L U) 0),a (v I 1),a (v (L V3) 2),a (v (L TR) 3)])))))))
 (.jump 0 [a (f (v (P (L U) I) 0)),a (s (v (P (L U) I) 100641)),a (v (L V3) 100192),a (v (L TR) 100193)]))))))))
 (.jump 0 [a (f (v (P (L U) I) 0)),a (s (v (P (L U) I) 100449)),a (v (L V3) 100192),a (v (L TR) 100193)])))
 (.ret [a (v (L V3) 2),a (v (L TR) 3),a (pr (v (L U) 0) (v I 1))]))
def Ze5:Tr:=.call Zbt [a (v I 0),a (c (-9999)),a (c 9999)] 100256
 (.ite (v B 100256)
 (.call Zbt [a (v I 1),a (v I 0),a (c 9999)] 100640
 (.ite (v B 100640)
 (.ite (lt (sub (v I 1) (v I 0)) (c 20))
 (.call Zbt [a (v I 2),a (v I 0),a (v I 1)] 101728
 (.ret [a (v B 101728)]))
 (.ret [a (k false)]))
 (.ret [a (k false)])))
 (.ret [a (k false)]))
def Ze6:Tr:=.call ZI [a (pr (f (v (P (L U) I) 0)) (s (v (P (L U) I) 0))),a (c 3)] 100256
 (.call ZbD [a (pr (f (v (P (L U) I) 0)) (s (v (P (L U) I) 100257))),a (v I 1),a (v I 100256),a (c 12)] 100320
 (.join
 (.call ZI [a (pr (f (v (P (L U) I) 0)) (s (v (P (L U) I) 100321))),a (c 12)] 100512
 (.ite (eq (v I 100512) (c 0))
 (.call ZI [a (pr (f (v (P (L U) I) 0)) (s (v (P (L U) I) 100513))),a (ln (v (L T4) 100320))] 100832
 (.guard (le (c 0) (v I 100832))
 (.guard (lt (v I 100832) (ln (v (L T4) 100320)))
 (.call ZI [a (pr (f (v (P (L U) I) 0)) (s (v (P (L U) I) 100833))),a (c 4)] 101408
 (.join
 (.ite (eq (v I 101408) (c 0))
 (.call Zbp [a (pr (f (v (P (L U) I) 0)) (s (v (P (L U) I) 101409))),a (app (one (c (-1))) (app (one (c 10)) (app (one (c 7)) (app (one (c 2)) (app (one (c 0)) (one (c 1)))))))] 101792
 (.jump 0 [a (v I 100832),a (f (v (P (L U) I) 0)),a (s (v (P (L U) I) 101793)),a (v (L T4) 100320),a (v I 101792),a (f (s (ix (v (L T4) 100320) (v I 100832)))),a (f (s (s (ix (v (L T4) 100320) (v I 100832))))),a (s (s (s (ix (v (L T4) 100320) (v I 100832)))))]))
 (.ite (eq (v I 101408) (c 1))
 (.call Zbp [a (pr (f (v (P (L U) I) 0)) (s (v (P (L U) I) 101409))),a (app (one (c (-1))) (app (one (v I 1)) (app (one (c 10000)) (one (c 1)))))] 101984
 (.jump 0 [a (v I 100832),a (f (v (P (L U) I) 0)),a (s (v (P (L U) I) 101985)),a (v (L T4) 100320),a (f (ix (v (L T4) 100320) (v I 100832))),a (v I 101984),a (f (s (s (ix (v (L T4) 100320) (v I 100832))))),a (s (s (s (ix (v (L T4) 100320) (v I 100832)))))]))
 (.ite (eq (v I 101408) (c 2))
 (.call Zbp [a (pr (f (v (P (L U) I) 0)) (s (v (P (L U) I) 101409))),a (app (one (c (-1))) (app (one (v I 100832)) (app (one (ln (v (L T4) 100320))) (one (c 0)))))] 102240
 (.jump 0 [a (v I 100832),a (f (v (P (L U) I) 0)),a (s (v (P (L U) I) 102241)),a (v (L T4) 100320),a (f (ix (v (L T4) 100320) (v I 100832))),a (f (s (ix (v (L T4) 100320) (v I 100832)))),a (v I 102240),a (s (s (s (ix (v (L T4) 100320) (v I 100832)))))]))
 (.call Zbp [a (pr (f (v (P (L U) I) 0)) (s (v (P (L U) I) 101409))),a (app (one (c (-1))) (app (one (v I 100832)) (app (one (ln (v (L T4) 100320))) (one (c 0)))))] 102240
 (.jump 0 [a (v I 100832),a (f (v (P (L U) I) 0)),a (s (v (P (L U) I) 102241)),a (v (L T4) 100320),a (f (ix (v (L T4) 100320) (v I 100832))),a (f (s (ix (v (L T4) 100320) (v I 100832)))),a (f (s (s (ix (v (L T4) 100320) (v I 100832))))),a (v I 102240)])))))
 (.guard (le (c 0) (v I 0))
 (.guard (lt (v I 0) (ln (v (L T4) 3)))
 (.jump 0 [a (v (L U) 1),a (v I 2),a (st (v (L T4) 3) (v I 0) (pr (v I 4) (pr (v I 5) (pr (v I 6) (v I 7)))))]))))))))
 (.jump 0 [a (f (v (P (L U) I) 0)),a (s (v (P (L U) I) 100513)),a (v (L T4) 100320)])))
 (.ret [a (v (L T4) 2),a (pr (v (L U) 0) (v I 1))])))
def Ze7:Tr:=.call Zbo [a (v (L U) 0)] 100256
 (.call ZbH [a (pr (f (v (P (L U) I) 100256)) (s (v (P (L U) I) 100256))),a (c 16)] 100448
 (.call Zbp [a (pr (f (v (P (L U) I) 100256)) (s (v (P (L U) I) 100450))),a (app (one (c 1)) (app (one (c 2)) (app (one (c 3)) (app (one (c 4)) (app (one (c 1)) (app (one (c 2)) (app (one (c 6)) (app (one (c 7)) (one (c 0))))))))))] 100768
 (.ite (eq (ln (v (L V3) 100448)) (c 0))
 (.call ZbJ [a (pr (f (v (P (L U) I) 100256)) (s (v (P (L U) I) 100769))),a (ln (v (L V3) 100448))] 102368
 (.join
 (.jump 0 [a (v I 100768),a (v (L V3) 100448),a (v (L TR) 100449),a (v (L T4) 102368)])
 (.ret [a (v (L V3) 1),a (v (L TR) 2),a (v (L T4) 3),a (v I 0)])))
 (.guard (lt (c 0) (ln (v (L V3) 100448)))
 (.call ZbI [a (f (ix (v (L V3) 100448) (c 0))),a (f (s (ix (v (L V3) 100448) (c 0)))),a (s (s (ix (v (L V3) 100448) (c 0))))] 101472
 (.ite (nt (v B 101472))
 (.call ZbJ [a (pr (f (v (P (L U) I) 100256)) (s (v (P (L U) I) 100769))),a (ln (v (L V3) 100448))] 102368
 (.join
 (.jump 0 [a (v I 100768),a (v (L V3) 100448),a (v (L TR) 100449),a (v (L T4) 102368)])
 (.ret [a (v (L V3) 1),a (v (L TR) 2),a (v (L T4) 3),a (v I 0)])))
 (.call ZI [a (pr (f (v (P (L U) I) 100256)) (s (v (P (L U) I) 100769))),a (c 16)] 101792
 (.ite (eq (v I 101792) (c 0))
 (.call ZbJ [a (pr (f (v (P (L U) I) 100256)) (s (v (P (L U) I) 101793))),a (ln (v (L V3) 100448))] 102368
 (.join
 (.jump 0 [a (v I 100768),a (v (L V3) 100448),a (v (L TR) 100449),a (v (L T4) 102368)])
 (.ret [a (v (L V3) 1),a (v (L TR) 2),a (v (L T4) 3),a (v I 0)])))
 (.guard (le (c 1) (ln (re false (v (L V3) 100448))))
 (.call ZbA [a (pr (f (v (P (L U) I) 100256)) (s (v (P (L U) I) 101793))),a (take (re false (v (L V3) 100448)) (c 1))] 102368
 (.join
 (.jump 0 [a (v I 100768),a (v (L V3) 100448),a (v (L TR) 100449),a (v (L T4) 102368)])
 (.ret [a (v (L V3) 1),a (v (L TR) 2),a (v (L T4) 3),a (v I 0)]))))))))))))
def Ze8:Tr:=.call ZbK [a (v (L U) 0)] 100192
 (.ret [a (v (L V3) 100192),a (v (L TR) 100193),a (v (L T4) 100194)])
def Ze9:Tr:=.ite (ge (v I 0) (v I 1))
 (.ret [a (le (v I 0) (v I 2))])
 (.ret [a (k false)])
def Zea:Tr:=.call ZbM [a (v I 0),a (c (-9999)),a (c 9999)] 100256
 (.ite (v B 100256)
 (.call ZbM [a (v I 1),a (v I 0),a (c 9999)] 100640
 (.ite (v B 100640)
 (.ite (lt (sub (v I 1) (v I 0)) (c 20))
 (.call ZbM [a (v I 2),a (v I 0),a (v I 1)] 101728
 (.ret [a (v B 101728)]))
 (.ret [a (k false)]))
 (.ret [a (k false)])))
 (.ret [a (k false)]))
def Zeb:Tr:=.loop [a (c 1),a (v (L V3) 0),a (ln (v (L V3) 0)),a (c 0)]
 (.ite (lt (v I 3) (v I 2))
 (.guard (le (c 0) (v I 3))
 (.guard (lt (v I 3) (ln (v (L V3) 1)))
 (.jump 0 [a (mul (v I 0) (add (sub (f (s (ix (v (L V3) 1) (v I 3)))) (f (ix (v (L V3) 1) (v I 3)))) (c 1))),a (v (L V3) 1),a (v I 2),a (add (v I 3) (c 1))])))
 (.ret [a (v I 0)]))
def Zec:Tr:=.ite (eq (v I 0) (c 2))
 (.ret [a (c 2),a (c 1),a (c 1)])
 (.ite (eq (v I 0) (c 3))
 (.ret [a (c 2),a (c 1),a (c 1)])
 (.ite (eq (v I 0) (c 4))
 (.ret [a (c 2),a (c 1),a (c 1)])
 (.ite (eq (v I 0) (c 5))
 (.ret [a (c 2),a (c 1),a (c 2)])
 (.ite (eq (v I 0) (c 6))
 (.ret [a (c 2),a (c 1),a (c 2)])
 (.ite (eq (v I 0) (c 7))
 (.ret [a (c 1),a (c 2),a (c 2)])
 (.ite (eq (v I 0) (c 8))
 (.ret [a (c 2),a (c 2),a (c 2)])
 (.ite (eq (v I 0) (c 9))
 (.ret [a (c 2),a (c 2),a (c 2)])
 (.ret [a (c 0),a (c 0),a (c 1)]))))))))
def Zed:Tr:=.call ZbM [a (v I 1),a (c 0),a (c 5)] 100128
 (.ite (nt (v B 100128))
 (.ret [a (.nil true I)])
 (.call ZbM [a (ln (v (L T4) 0)),a (c 1),a (c 40)] 100448
 (.ite (nt (v B 100448))
 (.ret [a (.nil true I)])
 (.guard (le (c 0) (ln (v (L T4) 0)))
 (.guard (le (ln (v (L T4) 0)) (c 549755813888))
 (.loop [a (v I 1),a (v (L T4) 0),a (ln (v (L T4) 0)),a (c 0),a (rep (c 0) (z I))]
 (.ite (lt (v I 3) (v I 2))
 (.guard (le (c 0) (v I 3))
 (.guard (lt (v I 3) (ln (v (L T4) 1)))
 (.call ZbP [a (f (ix (v (L T4) 1) (v I 3)))] 582
 (.call ZbM [a (f (ix (v (L T4) 1) (v I 3))),a (c 0),a (c 9)] 1222
 (.join
 (.ite (eq (f (ix (v (L T4) 1) (v I 3))) (c 0))
 (.call ZbM [a (f (s (ix (v (L T4) 1) (v I 3)))),a (c (-9999)),a (c 9999)] 1734
 (.ite (v B 1734)
 (.ite (eq (f (s (s (ix (v (L T4) 1) (v I 3))))) (c 0))
 (.jump 0 [a (v I 0),a (v I 584),a (eq (s (s (s (ix (v (L T4) 1) (v I 3))))) (c 0)),a (v (L T4) 1),a (v I 2),a (v I 3),a (v (L I) 4)])
 (.jump 0 [a (v I 0),a (v I 584),a (k false),a (v (L T4) 1),a (v I 2),a (v I 3),a (v (L I) 4)]))
 (.jump 0 [a (v I 0),a (v I 584),a (k false),a (v (L T4) 1),a (v I 2),a (v I 3),a (v (L I) 4)])))
 (.ite (eq (f (ix (v (L T4) 1) (v I 3))) (c 1))
 (.call ZbM [a (f (s (ix (v (L T4) 1) (v I 3)))),a (c 0),a (sub (v I 0) (c 1))] 2118
 (.ite (v B 2118)
 (.ite (eq (f (s (s (ix (v (L T4) 1) (v I 3))))) (c 0))
 (.jump 0 [a (v I 0),a (v I 584),a (eq (s (s (s (ix (v (L T4) 1) (v I 3))))) (c 0)),a (v (L T4) 1),a (v I 2),a (v I 3),a (v (L I) 4)])
 (.jump 0 [a (v I 0),a (v I 584),a (k false),a (v (L T4) 1),a (v I 2),a (v I 3),a (v (L I) 4)]))
 (.jump 0 [a (v I 0),a (v I 584),a (k false),a (v (L T4) 1),a (v I 2),a (v I 3),a (v (L I) 4)])))
 (.ite (v B 1222)
 (.ite (eq (f (s (ix (v (L T4) 1) (v I 3)))) (c 0))
 (.call ZbM [a (f (s (s (ix (v (L T4) 1) (v I 3))))),a (c 0),a (sub (v I 3) (c 1))] 2502
 (.ite (v B 2502)
 (.call ZbM [a (s (s (s (ix (v (L T4) 1) (v I 3))))),a (c 0),a (sub (v I 3) (c 1))] 2950
 (.ite (v B 2950)
 (.guard (le (c 0) (f (s (s (ix (v (L T4) 1) (v I 3))))))
 (.guard (lt (f (s (s (ix (v (L T4) 1) (v I 3))))) (ln (v (L I) 4)))
 (.ite (eq (ix (v (L I) 4) (f (s (s (ix (v (L T4) 1) (v I 3)))))) (v I 583))
 (.guard (le (c 0) (s (s (s (ix (v (L T4) 1) (v I 3))))))
 (.guard (lt (s (s (s (ix (v (L T4) 1) (v I 3))))) (ln (v (L I) 4)))
 (.ite (eq (ix (v (L I) 4) (s (s (s (ix (v (L T4) 1) (v I 3)))))) (v I 583))
 (.ite (eq (v I 582) (c 2))
 (.jump 0 [a (v I 0),a (v I 584),a (k true),a (v (L T4) 1),a (v I 2),a (v I 3),a (v (L I) 4)])
 (.jump 0 [a (v I 0),a (v I 584),a (eq (f (s (s (ix (v (L T4) 1) (v I 3))))) (s (s (s (ix (v (L T4) 1) (v I 3)))))),a (v (L T4) 1),a (v I 2),a (v I 3),a (v (L I) 4)]))
 (.jump 0 [a (v I 0),a (v I 584),a (k false),a (v (L T4) 1),a (v I 2),a (v I 3),a (v (L I) 4)]))))
 (.jump 0 [a (v I 0),a (v I 584),a (k false),a (v (L T4) 1),a (v I 2),a (v I 3),a (v (L I) 4)]))))
 (.jump 0 [a (v I 0),a (v I 584),a (k false),a (v (L T4) 1),a (v I 2),a (v I 3),a (v (L I) 4)])))
 (.jump 0 [a (v I 0),a (v I 584),a (k false),a (v (L T4) 1),a (v I 2),a (v I 3),a (v (L I) 4)])))
 (.jump 0 [a (v I 0),a (v I 584),a (k false),a (v (L T4) 1),a (v I 2),a (v I 3),a (v (L I) 4)]))
 (.jump 0 [a (v I 0),a (v I 584),a (k false),a (v (L T4) 1),a (v I 2),a (v I 3),a (v (L I) 4)]))))
 (.ite (nt (v B 2))
 (.ret [a (.nil true I)])
 (.guard (le (ln (v (L I) 6)) (c 549755813888))
 (.guard (le (ln (one (v I 1))) (c 549755813888))
 (.jump 0 [a (v I 0),a (v (L T4) 3),a (v I 4),a (add (v I 5) (c 1)),a (app (v (L I) 6) (one (v I 1)))])))))))))
 (.guard (nt (emp (v (L I) 4)))
 (.ret [a (re true (v (L I) 4))])))))))))
end Go.Proofs.YtdgpohclhppodaaGreat
namespace Go.Proofs.YtdgpohclhppodaaGreat
open Go Go.Sm Go.Sm.Q
def Zee:Tr:=.call ZbQ [a (v (L T4) 0),a (v I 1)] 100192
 (.ite (emp (v (N I) 100192))
 (.ret [a (c 0)])
 (.guard (le (c 0) (sub (lm (v (N I) 100192)) (c 1)))
 (.guard (lt (sub (lm (v (N I) 100192)) (c 1)) (lm (v (N I) 100192)))
 (.ret [a (im (v (N I) 100192) (sub (lm (v (N I) 100192)) (c 1)))]))))
def Zef:Tr:=.call ZbR [a (v (L T4) 0),a (v I 3)] 100320
 (.ite (ne (v I 100320) (c 2))
 (.ret [a (k false)])
 (.ite (ne (ln (v (L I) 1)) (ln (v (L (L T4)) 2)))
 (.ret [a (k false)])
 (.loop [a (v I 3),a (v (L I) 1),a (ln (v (L I) 1)),a (c 0),a (v (L T4) 0),a (v (L I) 1),a (v (L (L T4)) 2)]
 (.ite (lt (v I 3) (v I 2))
 (.join
 (.guard (le (c 0) (v I 3))
 (.guard (lt (v I 3) (ln (v (L I) 1)))
 (.call ZbM [a (ix (v (L I) 1) (v I 3)),a (c 0),a (sub (v I 0) (c 1))] 584
 (.ite (nt (v B 584))
 (.ret [a (k false)])
 (.ite (gt (v I 3) (c 0))
 (.guard (le (c 0) (sub (v I 3) (c 1)))
 (.guard (lt (sub (v I 3) (c 1)) (ln (v (L I) 5)))
 (.ite (ge (ix (v (L I) 5) (sub (v I 3) (c 1))) (ix (v (L I) 1) (v I 3)))
 (.ret [a (k false)])
 (.guard (le (c 0) (v I 3))
 (.guard (lt (v I 3) (ln (v (L (L T4)) 6)))
 (.call ZbR [a (ix (v (L (L T4)) 6) (v I 3)),a (v I 0)] 2056
 (.ite (ne (v I 2056) (c 1))
 (.ret [a (k false)])
 (.jump 0 [a (v I 0),a (v (L I) 1),a (v I 2),a (v I 3),a (v (L T4) 4),a (v (L I) 5),a (v (L (L T4)) 6)]))))))))
 (.guard (le (c 0) (v I 3))
 (.guard (lt (v I 3) (ln (v (L (L T4)) 6)))
 (.call ZbR [a (ix (v (L (L T4)) 6) (v I 3)),a (v I 0)] 2056
 (.ite (ne (v I 2056) (c 1))
 (.ret [a (k false)])
 (.jump 0 [a (v I 0),a (v (L I) 1),a (v I 2),a (v I 3),a (v (L T4) 4),a (v (L I) 5),a (v (L (L T4)) 6)]))))))))))
 (.jump 0 [a (v I 0),a (v (L I) 1),a (v I 2),a (add (v I 3) (c 1)),a (v (L T4) 4),a (v (L I) 5),a (v (L (L T4)) 6)]))
 (.ret [a (k true)])))))
def Zeg:Tr:=.join
 (.call ZbM [a (ln (v (L V3) 0)),a (c 1),a (c 5)] 100320
 (.ite (nt (v B 100320))
 (.ret [a (k false)])
 (.ite (gt (ln (v (L TR) 1)) (c 8))
 (.ret [a (k false)])
 (.loop [a (v (L V3) 0),a (ln (v (L V3) 0)),a (c 0),a (v (L V3) 0),a (v (L TR) 1)]
 (.ite (lt (v I 2) (v I 1))
 (.guard (le (c 0) (v I 2))
 (.guard (lt (v I 2) (ln (v (L V3) 0)))
 (.call ZbN [a (f (ix (v (L V3) 0) (v I 2))),a (f (s (ix (v (L V3) 0) (v I 2)))),a (s (s (ix (v (L V3) 0) (v I 2))))] 774
 (.ite (nt (v B 774))
 (.ite (ge (v I 2) (c 0))
 (.ret [a (k false)])
 (.call ZbO [a (v (L V3) 3)] 3014
 (.ite (gt (v I 3014) (c 400))
 (.ret [a (k false)])
 (.jump 1 [a (v (L V3) 3),a (v (L TR) 4)]))))
 (.jump 0 [a (v (L V3) 0),a (v I 1),a (add (v I 2) (c 1)),a (v (L V3) 3),a (v (L TR) 4)])))))
 (.call ZbO [a (v (L V3) 3)] 1670
 (.ite (gt (v I 1670) (c 400))
 (.ret [a (k false)])
 (.jump 1 [a (v (L V3) 3),a (v (L TR) 4)]))))))))
 (.loop [a (v (L TR) 1),a (ln (v (L TR) 1)),a (c 0),a (v (L V3) 0),a (v (L TR) 1)]
 (.ite (lt (v I 2) (v I 1))
 (.guard (le (c 0) (v I 2))
 (.guard (lt (v I 2) (ln (v (L TR) 0)))
 (.call ZbS [a (f (ix (v (L TR) 0) (v I 2))),a (f (s (ix (v (L TR) 0) (v I 2)))),a (s (s (ix (v (L TR) 0) (v I 2)))),a (ln (v (L V3) 3))] 966
 (.ite (nt (v B 966))
 (.ret [a (nt (ge (v I 2) (c 0)))])
 (.jump 0 [a (v (L TR) 0),a (v I 1),a (add (v I 2) (c 1)),a (v (L V3) 3),a (v (L TR) 4)])))))
 (.ret [a (nt (ge (c (-1)) (c 0)))])))
def Zeh:Tr:=.call ZbT [a (v (L V3) 0),a (v (L TR) 1)] 100192
 (.ite (v B 100192)
 (.call ZbR [a (v (L T4) 2),a (ln (v (L V3) 0))] 100576
 (.ret [a (eq (v I 100576) (c 2))]))
 (.ret [a (k false)]))
def Zei:Tr:=.guard (le (c 0) (ln (v (L V3) 0)))
 (.guard (le (ln (v (L V3) 0)) (c 549755813888))
 (.loop [a (v I 2),a (sub (ln (rep (ln (v (L V3) 0)) (z I))) (c 1)),a (v (L V3) 0),a (v (L TR) 1),a (rep (ln (v (L V3) 0)) (z I))]
 (.ite (ge (v I 1) (c 0))
 (.guard (le (c 0) (v I 1))
 (.guard (lt (v I 1) (ln (v (L V3) 2)))
 (.guard (ne (add (sub (f (s (ix (v (L V3) 2) (v I 1)))) (f (ix (v (L V3) 2) (v I 1)))) (c 1)) (c 0))
 (.guard (le (c 0) (v I 1))
 (.guard (lt (v I 1) (ln (v (L I) 4)))
 (.guard (ne (add (sub (f (s (ix (v (L V3) 2) (v I 1)))) (f (ix (v (L V3) 2) (v I 1)))) (c 1)) (c 0))
 (.jump 0 [a (quo (v I 0) (add (sub (f (s (ix (v (L V3) 2) (v I 1)))) (f (ix (v (L V3) 2) (v I 1)))) (c 1))),a (sub (v I 1) (c 1)),a (v (L V3) 2),a (v (L TR) 3),a (st (v (L I) 4) (v I 1) (add (f (ix (v (L V3) 2) (v I 1))) (rem (v I 0) (add (sub (f (s (ix (v (L V3) 2) (v I 1)))) (f (ix (v (L V3) 2) (v I 1)))) (c 1)))))])))))))
 (.ret [a (v (L I) 4)]))))
def Zej:Tr:=.ret [a (.o2 (.mx .i64) (c (-9999)) (.o2 (.mn .i64) (c 9999) (v I 0)))]
def Zek:Tr:=.ite (v B 0)
 (.ret [a (c 1)])
 (.ret [a (c 0)])
def Zel:Tr:=.ite (eq (v I 0) (c 2))
 (.call ZbW [a (add (v I 1) (v I 2))] 100448
 (.ret [a (v I 100448)]))
 (.ite (eq (v I 0) (c 3))
 (.call ZbW [a (sub (v I 1) (v I 2))] 100576
 (.ret [a (v I 100576)]))
 (.ite (eq (v I 0) (c 4))
 (.call ZbW [a (mul (v I 1) (v I 2))] 100704
 (.ret [a (v I 100704)]))
 (.ite (eq (v I 0) (c 5))
 (.call ZbX [a (lt (v I 1) (v I 2))] 100832
 (.ret [a (v I 100832)]))
 (.ite (eq (v I 0) (c 6))
 (.call ZbX [a (eq (v I 1) (v I 2))] 100960
 (.ret [a (v I 100960)]))
 (.ite (eq (v I 0) (c 7))
 (.ret [a (sub (c 1) (v I 1))])
 (.ite (eq (v I 0) (c 8))
 (.ret [a (.o2 (.mn .i64) (v I 1) (v I 2))])
 (.ret [a (.o2 (.mx .i64) (v I 1) (v I 2))])))))))
def Zem:Tr:=.guard (le (c 0) (ln (v (L T4) 0)))
 (.guard (le (ln (v (L T4) 0)) (c 549755813888))
 (.loop [a (v (L I) 1),a (v (L T4) 0),a (ln (v (L T4) 0)),a (c 0),a (rep (ln (v (L T4) 0)) (z I))]
 (.ite (lt (v I 3) (v I 2))
 (.join
 (.guard (le (c 0) (v I 3))
 (.guard (lt (v I 3) (ln (v (L T4) 1)))
 (.ite (eq (f (ix (v (L T4) 1) (v I 3))) (c 0))
 (.guard (le (c 0) (v I 3))
 (.guard (lt (v I 3) (ln (v (L I) 4)))
 (.jump 0 [a (v (L I) 0),a (v (L T4) 1),a (v I 2),a (v I 3),a (st (v (L I) 4) (v I 3) (f (s (ix (v (L T4) 1) (v I 3)))))])))
 (.ite (eq (f (ix (v (L T4) 1) (v I 3))) (c 1))
 (.guard (le (c 0) (f (s (ix (v (L T4) 1) (v I 3)))))
 (.guard (lt (f (s (ix (v (L T4) 1) (v I 3)))) (ln (v (L I) 0)))
 (.guard (le (c 0) (v I 3))
 (.guard (lt (v I 3) (ln (v (L I) 4)))
 (.jump 0 [a (v (L I) 0),a (v (L T4) 1),a (v I 2),a (v I 3),a (st (v (L I) 4) (v I 3) (ix (v (L I) 0) (f (s (ix (v (L T4) 1) (v I 3))))))])))))
 (.guard (le (c 0) (f (s (s (ix (v (L T4) 1) (v I 3))))))
 (.guard (lt (f (s (s (ix (v (L T4) 1) (v I 3))))) (ln (v (L I) 4)))
 (.guard (le (c 0) (s (s (s (ix (v (L T4) 1) (v I 3))))))
 (.guard (lt (s (s (s (ix (v (L T4) 1) (v I 3))))) (ln (v (L I) 4)))
 (.call ZbY [a (f (ix (v (L T4) 1) (v I 3))),a (ix (v (L I) 4) (f (s (s (ix (v (L T4) 1) (v I 3)))))),a (ix (v (L I) 4) (s (s (s (ix (v (L T4) 1) (v I 3))))))] 1734
 (.guard (le (c 0) (v I 3))
 (.guard (lt (v I 3) (ln (v (L I) 4)))
 (.jump 0 [a (v (L I) 0),a (v (L T4) 1),a (v I 2),a (v I 3),a (st (v (L I) 4) (v I 3) (v I 1734))]))))))))))))
 (.jump 0 [a (v (L I) 0),a (v (L T4) 1),a (v I 2),a (add (v I 3) (c 1)),a (v (L I) 4)]))
 (.guard (le (c 0) (sub (ln (v (L I) 4)) (c 1)))
 (.guard (lt (sub (ln (v (L I) 4)) (c 1)) (ln (v (L I) 4)))
 (.ret [a (ix (v (L I) 4) (sub (ln (v (L I) 4)) (c 1)))]))))))
def Zen:Tr:=.call ZbO [a (v (L V3) 0)] 100256
 (.guard (le (c 0) (v I 100256))
 (.guard (le (v I 100256) (c 549755813888))
 (.loop [a (v (L T4) 2),a (ln (rep (v I 100256) (z B))),a (c 0),a (v (L V3) 0),a (v (L TR) 1),a (rep (v I 100256) (z B))]
 (.ite (lt (v I 2) (v I 1))
 (.call ZbV [a (v (L V3) 3),a (v (L TR) 4),a (v I 2)] 520
 (.call ZbZ [a (v (L T4) 0),a (v (L I) 520)] 584
 (.guard (le (c 0) (v I 2))
 (.guard (lt (v I 2) (ln (v (L B) 5)))
 (.jump 0 [a (v (L T4) 0),a (v I 1),a (add (v I 2) (c 1)),a (v (L V3) 3),a (v (L TR) 4),a (st (v (L B) 5) (v I 2) (eq (v I 584) (c 1)))])))))
 (.ret [a (v (L B) 5)])))))
def Zeo:Tr:=.call ZbU [a (v (L V3) 0),a (v (L TR) 1),a (v (L T4) 2)] 100320
 (.ite (nt (v B 100320))
 (.ret [a (nl B),a (k false)])
 (.call Zb_ [a (v (L V3) 0),a (v (L TR) 1),a (v (L T4) 2)] 100576
 (.ret [a (v (L B) 100576),a (k true)])))
def Zep:Tr:=.ite (eq (ln (v (L I) 0)) (c 0))
 (.ret [a (nl I)])
 (.guard (le (c 0) (ln (v (L I) 0)))
 (.guard (le (ln (v (L I) 0)) (c 549755813888))
 (.ret [a (over (rep (ln (v (L I) 0)) (z I)) (v (L I) 0))])))
def Zeq:Tr:=.loop [a (v (L V3) 0),a (ln (v (L V3) 0)),a (c 0),a (nl I)]
 (.ite (lt (v I 2) (v I 1))
 (.guard (le (c 0) (v I 2))
 (.guard (lt (v I 2) (ln (v (L V3) 0)))
 (.guard (le (ln (v (L I) 3)) (c 549755813888))
 (.guard (le (ln (one (s (s (ix (v (L V3) 0) (v I 2)))))) (c 549755813888))
 (.jump 0 [a (v (L V3) 0),a (v I 1),a (add (v I 2) (c 1)),a (app (v (L I) 3) (one (s (s (ix (v (L V3) 0) (v I 2))))))])))))
 (.call Zc1 [a (v (L I) 3)] 133
 (.ret [a (v (L I) 133)])))
def Zer:Tr:=.loop [a (v (L I) 2),a (c 0),a (v (L V3) 0),a (ln (v (L V3) 0)),a (c 0)]
 (.ite (lt (v I 4) (v I 3))
 (.guard (le (c 0) (v I 4))
 (.guard (lt (v I 4) (ln (v (L V3) 2)))
 (.guard (le (c 0) (v I 4))
 (.guard (lt (v I 4) (ln (v (L I) 0)))
 (.jump 0 [a (v (L I) 0),a (sub (add (mul (v I 1) (add (sub (f (s (ix (v (L V3) 2) (v I 4)))) (f (ix (v (L V3) 2) (v I 4)))) (c 1))) (ix (v (L I) 0) (v I 4))) (f (ix (v (L V3) 2) (v I 4)))),a (v (L V3) 2),a (v I 3),a (add (v I 4) (c 1))])))))
 (.ret [a (v I 1)]))
def Zes:Tr:=.ite (ne (ln (v (L I) 2)) (ln (v (L V3) 0)))
 (.ret [a (k false)])
 (.loop [a (v (L I) 2),a (v (L V3) 0),a (ln (v (L V3) 0)),a (c 0)]
 (.ite (lt (v I 3) (v I 2))
 (.guard (le (c 0) (v I 3))
 (.guard (lt (v I 3) (ln (v (L V3) 1)))
 (.guard (le (c 0) (v I 3))
 (.guard (lt (v I 3) (ln (v (L I) 0)))
 (.call ZbM [a (ix (v (L I) 0) (v I 3)),a (f (ix (v (L V3) 1) (v I 3))),a (f (s (ix (v (L V3) 1) (v I 3))))] 964
 (.ite (nt (v B 964))
 (.ret [a (k false)])
 (.jump 0 [a (v (L I) 0),a (v (L V3) 1),a (v I 2),a (add (v I 3) (c 1))])))))))
 (.ret [a (k true)])))
def Zet:Tr:=.guard (le (c 0) (v I 3))
 (.guard (lt (v I 3) (ln (v (L TR) 1)))
 (.call ZbZ [a (f (ix (v (L TR) 1) (v I 3))),a (v (L I) 2)] 100832
 (.ite (eq (v I 100832) (c 0))
 (.ret [a (nl I),a (k false)])
 (.call Zc1 [a (v (L I) 2)] 101024
 (.loop [a (v (L I) 2),a (f (s (ix (v (L TR) 1) (v I 3)))),a (ln (f (s (ix (v (L TR) 1) (v I 3))))),a (c 0),a (v (L V3) 0),a (v (L TR) 1),a (f (ix (v (L TR) 1) (v I 3))),a (f (s (ix (v (L TR) 1) (v I 3)))),a (s (s (ix (v (L TR) 1) (v I 3)))),a (v (L I) 101024)]
 (.ite (lt (v I 3) (v I 2))
 (.guard (le (c 0) (v I 3))
 (.guard (lt (v I 3) (ln (v (L I) 1)))
 (.guard (le (c 0) (v I 3))
 (.guard (lt (v I 3) (ln (v (L (L T4)) 8)))
 (.call ZbZ [a (ix (v (L (L T4)) 8) (v I 3)),a (v (L I) 0)] 909
 (.guard (le (c 0) (ix (v (L I) 1) (v I 3)))
 (.guard (lt (ix (v (L I) 1) (v I 3)) (ln (v (L I) 9)))
 (.jump 0 [a (v (L I) 0),a (v (L I) 1),a (v I 2),a (add (v I 3) (c 1)),a (v (L V3) 4),a (v (L TR) 5),a (v (L T4) 6),a (v (L I) 7),a (v (L (L T4)) 8),a (st (v (L I) 9) (ix (v (L I) 1) (v I 3)) (v I 909))]))))))))
 (.call Zc4 [a (v (L V3) 4),a (v (L TR) 5),a (v (L I) 9)] 205
 (.ite (nt (v B 205))
 (.ret [a (nl I),a (k false)])
 (.ret [a (v (L I) 9),a (k true)])))))))))
def Zeu:Tr:=.ret [a (ne (v I 0) (v I 0))]
def Zev:Tr:=.call Zc6 [a (v I 0)] 100128
 (.call Zc6 [a (v I 1)] 100320
 (.ite (v B 100128)
 (.ite (v B 100320)
 (.ret [a (c 0)])
 (.ret [a (c (-1))]))
 (.ite (v B 100320)
 (.ret [a (c 1)])
 (.ite (lt (v I 0) (v I 1))
 (.ret [a (c (-1))])
 (.ite (gt (v I 0) (v I 1))
 (.ret [a (c 1)])
 (.ret [a (c 0)]))))))
def Zew:Tr:=.loop [a (v (L I) 0),a (v (L I) 1),a (v (L I) 0),a (ln (v (L I) 0)),a (c 0)]
 (.ite (lt (v I 4) (v I 3))
 (.guard (le (c 0) (v I 4))
 (.guard (lt (v I 4) (ln (v (L I) 2)))
 (.ite (ge (v I 4) (ln (v (L I) 1)))
 (.ret [a (c 1)])
 (.guard (le (c 0) (v I 4))
 (.guard (lt (v I 4) (ln (v (L I) 1)))
 (.call Zc7 [a (ix (v (L I) 2) (v I 4)),a (ix (v (L I) 1) (v I 4))] 1093
 (.ite (ne (v I 1093) (c 0))
 (.ret [a (v I 1093)])
 (.jump 0 [a (v (L I) 0),a (v (L I) 1),a (v (L I) 2),a (v I 3),a (add (v I 4) (c 1))]))))))))
 (.ite (lt (ln (v (L I) 0)) (ln (v (L I) 1)))
 (.ret [a (c (-1))])
 (.ret [a (c 0)])))
def Zex:Tr:=.loop [a (c 0),a (sub (ln (v (L (L I)) 0)) (c 1)),a (v (L (L I)) 0)]
 (.ite (lt (v I 0) (v I 1))
 (.guard (le (c 0) (v I 1))
 (.guard (lt (v I 1) (ln (v (L (L I)) 2)))
 (.guard (le (c 0) (v I 0))
 (.guard (lt (v I 0) (ln (v (L (L I)) 2)))
 (.guard (le (c 0) (v I 0))
 (.guard (lt (v I 0) (ln (v (L (L I)) 2)))
 (.guard (le (c 0) (v I 1))
 (.guard (lt (v I 1) (ln (st (v (L (L I)) 2) (v I 0) (ix (v (L (L I)) 2) (v I 1)))))
 (.jump 0 [a (add (v I 0) (c 1)),a (sub (v I 1) (c 1)),a (st (st (v (L (L I)) 2) (v I 0) (ix (v (L (L I)) 2) (v I 1))) (v I 1) (ix (v (L (L I)) 2) (v I 0)))])))))))))
 (.ret []))
def Zey:Tr:=.ite (eq (ln (v (L (L I)) 0)) (c 0))
 (.ret [a (nl (L I))])
 (.guard (le (c 0) (ln (v (L (L I)) 0)))
 (.guard (le (ln (v (L (L I)) 0)) (c 549755813888))
 (.ret [a (over (rep (ln (v (L (L I)) 0)) (z (L I))) (v (L (L I)) 0))])))
def Zez:Tr:=.loop [a (v (L I) 2),a (ln (v (L TR) 1)),a (c 0),a (v (L V3) 0),a (v (L TR) 1),a (nl (L I))]
 (.ite (lt (v I 2) (v I 1))
 (.join
 (.call Zc5 [a (v (L V3) 3),a (v (L TR) 4),a (v (L I) 0),a (v I 2)] 392
 (.ite (v B 393)
 (.join
 (.loop [a (ln (v (L (L I)) 5)),a (c 0),a (ln (v (L (L I)) 5)),a (v (L I) 0),a (v I 1),a (v I 2),a (v (L (L I)) 5),a (v (L I) 392),a (v (L V3) 3),a (v (L TR) 4)]
 (.ite (lt (v I 1) (v I 2))
 (.guard (le (c 0) (.o1 (.conv .u64 .i64) (.o2 (.sh false .u64 .u64) (.o1 (.conv .i64 .u64) (add (v I 1) (v I 2))) (.int .u64 1))))
 (.guard (lt (.o1 (.conv .u64 .i64) (.o2 (.sh false .u64 .u64) (.o1 (.conv .i64 .u64) (add (v I 1) (v I 2))) (.int .u64 1))) (ln (v (L (L I)) 6)))
 (.call Zc8 [a (ix (v (L (L I)) 6) (.o1 (.conv .u64 .i64) (.o2 (.sh false .u64 .u64) (.o1 (.conv .i64 .u64) (add (v I 1) (v I 2))) (.int .u64 1)))),a (v (L I) 7)] 1037
 (.ite (lt (v I 1037) (c 0))
 (.jump 0 [a (v I 0),a (add (.o1 (.conv .u64 .i64) (.o2 (.sh false .u64 .u64) (.o1 (.conv .i64 .u64) (add (v I 1) (v I 2))) (.int .u64 1))) (c 1)),a (v I 2),a (v (L I) 3),a (v I 4),a (v I 5),a (v (L (L I)) 6),a (v (L I) 7),a (v (L V3) 8),a (v (L TR) 9)])
 (.jump 0 [a (v I 0),a (v I 1),a (.o1 (.conv .u64 .i64) (.o2 (.sh false .u64 .u64) (.o1 (.conv .i64 .u64) (add (v I 1) (v I 2))) (.int .u64 1))),a (v (L I) 3),a (v I 4),a (v I 5),a (v (L (L I)) 6),a (v (L I) 7),a (v (L V3) 8),a (v (L TR) 9)])))))
 (.ite (lt (v I 1) (v I 0))
 (.guard (le (c 0) (v I 1))
 (.guard (lt (v I 1) (ln (v (L (L I)) 6)))
 (.call Zc8 [a (ix (v (L (L I)) 6) (v I 1)),a (v (L I) 7)] 909
 (.jump 1 [a (v (L I) 3),a (v I 1),a (eq (v I 909) (c 0)),a (v I 4),a (v I 5),a (v (L V3) 8),a (v (L TR) 9),a (v (L (L I)) 6),a (v (L I) 7)]))))
 (.jump 1 [a (v (L I) 3),a (v I 1),a (k false),a (v I 4),a (v I 5),a (v (L V3) 8),a (v (L TR) 9),a (v (L (L I)) 6),a (v (L I) 7)]))))
 (.ite (nt (v B 2))
 (.guard (le (c 0) (v I 1))
 (.guard (le (v I 1) (ln (v (L (L I)) 7)))
 (.guard (le (ln (v (L (L I)) 7)) (c 549755813888))
 (.guard (eq (ln (one (v (L I) 8))) (c 1))
 (.jump 0 [a (v (L I) 0),a (v I 3),a (v I 4),a (v (L V3) 5),a (v (L TR) 6),a (app (app (take (v (L (L I)) 7) (v I 1)) (one (v (L I) 8))) (drop (v (L (L I)) 7) (v I 1)))])))))
 (.jump 0 [a (v (L I) 0),a (v I 3),a (v I 4),a (v (L V3) 5),a (v (L TR) 6),a (v (L (L I)) 7)])))
 (.jump 0 [a (v (L I) 0),a (v I 1),a (v I 2),a (v (L V3) 3),a (v (L TR) 4),a (v (L (L I)) 5)])))
 (.jump 0 [a (v (L I) 0),a (v I 1),a (add (v I 2) (c 1)),a (v (L V3) 3),a (v (L TR) 4),a (v (L (L I)) 5)]))
 (.call Zca [a (v (L (L I)) 5)] 136
 (.ret [a (v (L (L I)) 136)])))
def ZeA:Tr:=.call ZbO [a (v (L V3) 0)] 100256
 (.guard (le (c 0) (v I 100256))
 (.guard (le (v I 100256) (c 549755813888))
 (.loop [a (ln (rep (v I 100256) (z (L I)))),a (c 0),a (v (L V3) 0),a (v (L TR) 1),a (rep (v I 100256) (z (L I)))]
 (.ite (lt (v I 1) (v I 0))
 (.call ZbV [a (v (L V3) 2),a (v (L TR) 3),a (v I 1)] 455
 (.call Zcb [a (v (L V3) 2),a (v (L TR) 3),a (v (L I) 455)] 519
 (.loop [a (v I 1),a (v I 0),a (v I 1),a (ln (v (L (L I)) 519)),a (c 0),a (v (L V3) 2),a (v (L TR) 3),a (v (L (L I)) 4),a (v (L (L I)) 519)]
 (.ite (lt (v I 4) (v I 3))
 (.guard (le (c 0) (v I 4))
 (.guard (lt (v I 4) (ln (v (L (L I)) 8)))
 (.guard (le (c 0) (v I 0))
 (.guard (lt (v I 0) (ln (v (L (L I)) 7)))
 (.call Zc3 [a (v (L V3) 5),a (v (L TR) 6),a (ix (v (L (L I)) 8) (v I 4))] 780
 (.guard (le (ln (ix (v (L (L I)) 7) (v I 0))) (c 549755813888))
 (.guard (le (ln (one (v I 780))) (c 549755813888))
 (.guard (le (c 0) (v I 0))
 (.guard (lt (v I 0) (ln (v (L (L I)) 7)))
 (.jump 0 [a (v I 0),a (v I 1),a (v I 2),a (v I 3),a (add (v I 4) (c 1)),a (v (L V3) 5),a (v (L TR) 6),a (st (v (L (L I)) 7) (v I 0) (app (ix (v (L (L I)) 7) (v I 0)) (one (v I 780)))),a (v (L (L I)) 8)]))))))))))
 (.jump 1 [a (v I 1),a (add (v I 2) (c 1)),a (v (L V3) 5),a (v (L TR) 6),a (v (L (L I)) 7)])))))
 (.ret [a (v (L (L I)) 4)])))))
def ZeB:Tr:=.guard (le (c 0) (v I 1))
 (.guard (le (v I 1) (c 549755813888))
 (.loop [a (v (L I) 0),a (ln (v (L I) 0)),a (c 0),a (rep (v I 1) (z B))]
 (.ite (lt (v I 2) (v I 1))
 (.guard (le (c 0) (v I 2))
 (.guard (lt (v I 2) (ln (v (L I) 0)))
 (.guard (le (c 0) (ix (v (L I) 0) (v I 2)))
 (.guard (lt (ix (v (L I) 0) (v I 2)) (ln (v (L B) 3)))
 (.jump 0 [a (v (L I) 0),a (v I 1),a (add (v I 2) (c 1)),a (st (v (L B) 3) (ix (v (L I) 0) (v I 2)) (k true))])))))
 (.ret [a (v (L B) 3)]))))
def ZeC:Tr:=.guard (le (c 0) (ln (v (L (L I)) 0)))
 (.guard (le (ln (v (L (L I)) 0)) (c 549755813888))
 (.loop [a (v (L (L I)) 0),a (ln (v (L (L I)) 0)),a (c 0),a (rep (ln (v (L (L I)) 0)) (z (L I)))]
 (.ite (lt (v I 2) (v I 1))
 (.guard (le (c 0) (v I 2))
 (.guard (lt (v I 2) (ln (v (L (L I)) 0)))
 (.loop [a (v I 2),a (v (L (L I)) 0),a (v I 1),a (v I 2),a (ix (v (L (L I)) 0) (v I 2)),a (ln (ix (v (L (L I)) 0) (v I 2))),a (c 0),a (v (L (L I)) 3)]
 (.ite (lt (v I 6) (v I 5))
 (.guard (le (c 0) (v I 6))
 (.guard (lt (v I 6) (ln (v (L I) 4)))
 (.guard (le (c 0) (ix (v (L I) 4) (v I 6)))
 (.guard (lt (ix (v (L I) 4) (v I 6)) (ln (v (L (L I)) 7)))
 (.guard (le (ln (ix (v (L (L I)) 7) (ix (v (L I) 4) (v I 6)))) (c 549755813888))
 (.guard (le (ln (one (v I 0))) (c 549755813888))
 (.guard (le (c 0) (ix (v (L I) 4) (v I 6)))
 (.guard (lt (ix (v (L I) 4) (v I 6)) (ln (v (L (L I)) 7)))
 (.jump 0 [a (v I 0),a (v (L (L I)) 1),a (v I 2),a (v I 3),a (v (L I) 4),a (v I 5),a (add (v I 6) (c 1)),a (st (v (L (L I)) 7) (ix (v (L I) 4) (v I 6)) (app (ix (v (L (L I)) 7) (ix (v (L I) 4) (v I 6))) (one (v I 0))))])))))))))
 (.jump 1 [a (v (L (L I)) 1),a (v I 2),a (add (v I 3) (c 1)),a (v (L (L I)) 7)])))))
 (.ret [a (v (L (L I)) 3)]))))
def ZeD:Tr:=.loop [a (v (L B) 0),a (ln (v (L B) 0)),a (c 0),a (nl I)]
 (.ite (lt (v I 2) (v I 1))
 (.join
 (.guard (le (c 0) (v I 2))
 (.guard (lt (v I 2) (ln (v (L B) 0)))
 (.ite (ix (v (L B) 0) (v I 2))
 (.guard (le (ln (v (L I) 3)) (c 549755813888))
 (.guard (le (ln (one (v I 2))) (c 549755813888))
 (.jump 0 [a (v (L B) 0),a (v I 1),a (v I 2),a (app (v (L I) 3) (one (v I 2)))])))
 (.jump 0 [a (v (L B) 0),a (v I 1),a (v I 2),a (v (L I) 3)]))))
 (.jump 0 [a (v (L B) 0),a (v I 1),a (add (v I 2) (c 1)),a (v (L I) 3)]))
 (.call Zc1 [a (v (L I) 3)] 133
 (.ret [a (v (L I) 133)])))
def ZeE:Tr:=.ite (ne (ln (v (L I) 0)) (ln (v (L I) 1)))
 (.ret [a (k false)])
 (.loop [a (v (L I) 0),a (v (L I) 1),a (ln (v (L I) 0)),a (c 0)]
 (.ite (lt (v I 3) (v I 2))
 (.guard (le (c 0) (v I 3))
 (.guard (lt (v I 3) (ln (v (L I) 0)))
 (.guard (le (c 0) (v I 3))
 (.guard (lt (v I 3) (ln (v (L I) 1)))
 (.ite (ne (ix (v (L I) 0) (v I 3)) (ix (v (L I) 1) (v I 3)))
 (.ret [a (k false)])
 (.jump 0 [a (v (L I) 0),a (v (L I) 1),a (v I 2),a (add (v I 3) (c 1))]))))))
 (.ret [a (k true)])))
def ZeF:Tr:=.loop [a (v (L (L I)) 0),a (ln (v (L (L I)) 0)),a (c 0),a (nl (L I))]
 (.ite (lt (v I 2) (v I 1))
 (.guard (le (c 0) (v I 2))
 (.guard (lt (v I 2) (ln (v (L (L I)) 0)))
 (.call Zc1 [a (ix (v (L (L I)) 0) (v I 2))] 389
 (.guard (le (ln (v (L (L I)) 3)) (c 549755813888))
 (.guard (le (ln (one (v (L I) 389))) (c 549755813888))
 (.jump 0 [a (v (L (L I)) 0),a (v I 1),a (add (v I 2) (c 1)),a (app (v (L (L I)) 3) (one (v (L I) 389)))]))))))
 (.call Zca [a (v (L (L I)) 3)] 133
 (.ret [a (v (L (L I)) 133)])))
def ZeG:Tr:=.call ZbT [a (v (L V3) 0),a (v (L TR) 1)] 100192
 (.ite (v B 100192)
 (.call Zc4 [a (v (L V3) 0),a (v (L TR) 1),a (v (L I) 2)] 100448
 (.ret [a (v B 100448)]))
 (.ret [a (k false)]))
def ZeH:Tr:=.loop [a (v (L I) 2),a (v (L I) 3),a (ln (v (L TR) 1)),a (c 0),a (v (L V3) 0),a (v (L TR) 1)]
 (.ite (lt (v I 3) (v I 2))
 (.join
 (.call Zc5 [a (v (L V3) 4),a (v (L TR) 5),a (v (L I) 0),a (v I 3)] 391
 (.ite (v B 392)
 (.call Zcg [a (v (L I) 391),a (v (L I) 1)] 1031
 (.ite (v B 1031)
 (.ret [a (v I 3)])
 (.jump 0 [a (v (L I) 0),a (v (L I) 1),a (v I 2),a (v I 3),a (v (L V3) 4),a (v (L TR) 5)])))
 (.jump 0 [a (v (L I) 0),a (v (L I) 1),a (v I 2),a (v I 3),a (v (L V3) 4),a (v (L TR) 5)])))
 (.jump 0 [a (v (L I) 0),a (v (L I) 1),a (v I 2),a (add (v I 3) (c 1)),a (v (L V3) 4),a (v (L TR) 5)]))
 (.ret [a (c (-1))]))
end Go.Proofs.YtdgpohclhppodaaGreat
namespace Go.Proofs.YtdgpohclhppodaaGreat
open Go Go.Sm Go.Sm.Q
def ZeI:Tr:=.call Zci [a (v (L V3) 0),a (v (L TR) 1),a (v (L I) 2)] 100256
 (.ite (nt (v B 100256))
 (.ret [a (c (-1))])
 (.call Zc4 [a (v (L V3) 0),a (v (L TR) 1),a (v (L I) 3)] 100576
 (.ite (nt (v B 100576))
 (.ret [a (c (-1))])
 (.call Zcj [a (v (L V3) 0),a (v (L TR) 1),a (v (L I) 2),a (v (L I) 3)] 100960
 (.ret [a (v I 100960)])))))
def ZeJ:Tr:=.call ZbT [a (v (L V3) 0),a (v (L TR) 1)] 100256
 (.ite (nt (v B 100256))
 (.ret [a (nl (L I)),a (nl I),a (k false)])
 (.call ZbM [a (ln (v (L (L I)) 2)),a (c 1),a (c 500)] 100576
 (.ite (nt (v B 100576))
 (.ret [a (nl (L I)),a (nl I),a (k false)])
 (.guard (lt (c 0) (ln (v (L (L I)) 2)))
 (.call Zc2 [a (v (L V3) 0),a (v (L TR) 1)] 101088
 (.call Zcg [a (ix (v (L (L I)) 2) (c 0)),a (v (L I) 101088)] 101152
 (.ite (nt (v B 101152))
 (.ret [a (nl (L I)),a (nl I),a (k false)])
 (.call Zch [a (v (L (L I)) 2)] 101408
 (.loop [a (v (L (L I)) 2),a (c 1),a (v (L V3) 0),a (v (L TR) 1),a (v (L (L I)) 101408),a (nl I)]
 (.ite (lt (v I 1) (ln (v (L (L I)) 0)))
 (.guard (le (c 0) (sub (v I 1) (c 1)))
 (.guard (lt (sub (v I 1) (c 1)) (ln (v (L (L I)) 0)))
 (.guard (le (c 0) (v I 1))
 (.guard (lt (v I 1) (ln (v (L (L I)) 0)))
 (.call Zck [a (v (L V3) 2),a (v (L TR) 3),a (ix (v (L (L I)) 0) (sub (v I 1) (c 1))),a (ix (v (L (L I)) 0) (v I 1))] 907
 (.ite (lt (v I 907) (c 0))
 (.ret [a (nl (L I)),a (nl I),a (k false)])
 (.guard (le (ln (v (L I) 5)) (c 549755813888))
 (.guard (le (ln (one (v I 907))) (c 549755813888))
 (.jump 0 [a (v (L (L I)) 0),a (add (v I 1) (c 1)),a (v (L V3) 2),a (v (L TR) 3),a (v (L (L I)) 4),a (app (v (L I) 5) (one (v I 907)))])))))))))
 (.call Zc1 [a (v (L I) 5)] 395
 (.ret [a (v (L (L I)) 4),a (v (L I) 395),a (k true)]))))))))))))
def ZeK:Tr:=.loop [a (ln (f (s (s (s (v YT 0)))))),a (c 0),a (f (f (v YT 0))),a (s (f (v YT 0))),a (f (s (v YT 0))),a (f (s (s (v YT 0)))),a (s (s (s (s (s (s (v YT 0))))))),a (f (s (s (s (v YT 0))))),a (f (s (s (s (s (v YT 0)))))),a (f (s (s (s (s (s (v YT 0))))))),a (k false),a (k false),a (nl (L I))]
 (.ite (lt (v I 1) (v I 0))
 (.guard (le (c 0) (v I 1))
 (.guard (lt (v I 1) (ln (v (L (L B)) 7)))
 (.call Zcf [a (ix (v (L (L B)) 7) (v I 1))] 468
 (.guard (le (ln (v (L (L I)) 12)) (c 549755813888))
 (.guard (le (ln (one (v (L I) 468))) (c 549755813888))
 (.jump 0 [a (v I 0),a (add (v I 1) (c 1)),a (v (L V3) 2),a (v (L TR) 3),a (v (L (L I)) 4),a (v (L (L I)) 5),a (v (N I) 6),a (v (L (L B)) 7),a (v (L (P (L I) I)) 8),a (v (L I) 9),a (v B 10),a (v B 11),a (app (v (L (L I)) 12) (one (v (L I) 468)))]))))))
 (.call Zca [a (v (L (L I)) 12)] 212
 (.join
 (.ite (nt (emp (v (N I) 6)))
 (.loop [a (v (N I) 6),a (lm (v (N I) 6)),a (c 0),a (v (L V3) 2),a (v (L TR) 3),a (v (L (L I)) 4),a (v (L (L I)) 5),a (v (N I) 6),a (v (L (L B)) 7),a (v (L (P (L I) I)) 8),a (v (L I) 9),a (v B 10),a (v B 11),a (v (L (L I)) 212),a (nl (L I))]
 (.ite (lt (v I 2) (v I 1))
 (.guard (le (c 0) (v I 2))
 (.guard (lt (v I 2) (lm (v (N I) 0)))
 (.call ZbV [a (v (L V3) 3),a (v (L TR) 4),a (im (v (N I) 0) (v I 2))] 663
 (.guard (le (ln (v (L (L I)) 14)) (c 549755813888))
 (.guard (le (ln (one (v (L I) 663))) (c 549755813888))
 (.jump 0 [a (v (N I) 0),a (v I 1),a (add (v I 2) (c 1)),a (v (L V3) 3),a (v (L TR) 4),a (v (L (L I)) 5),a (v (L (L I)) 6),a (v (N I) 7),a (v (L (L B)) 8),a (v (L (P (L I) I)) 9),a (v (L I) 10),a (v B 11),a (v B 12),a (v (L (L I)) 13),a (app (v (L (L I)) 14) (one (v (L I) 663)))]))))))
 (.call Zcl [a (v (L V3) 3),a (v (L TR) 4),a (v (L (L I)) 14)] 407
 (.jump 1 [a (v (L V3) 3),a (v (L TR) 4),a (v (L (L I)) 5),a (v (L (L I)) 6),a (v (N I) 7),a (v (L (L B)) 8),a (v (L (P (L I) I)) 9),a (v (L I) 10),a (v B 11),a (v B 12),a (v (L (L I)) 13),a (v (L (L I)) 407),a (v (L I) 408)]))))
 (.jump 0 [a (v (L V3) 2),a (v (L TR) 3),a (v (L (L I)) 4),a (v (L (L I)) 5),a (v (N I) 6),a (v (L (L B)) 7),a (v (L (P (L I) I)) 8),a (v (L I) 9),a (v B 10),a (v B 11),a (v (L (L I)) 212),a (nl (L I)),a (nl I)]))
 (.ret [a (v B 9),a (v (L (L I)) 10),a (nl I),a (v (L (L I)) 11),a (v (L I) 12),a (pr (pr (v (L V3) 0) (v (L TR) 1)) (pr (v (L (L I)) 2) (pr (v (L (L I)) 3) (pr (v (L (L B)) 5) (pr (v (L (P (L I) I)) 6) (pr (v (L I) 7) (v (N I) 4)))))))]))))
def ZeL:Tr:=.ret [a (.o1 (.conv .u64 .u32) (.o2 (.sh false .u64 .u64) (ar .mul (.o1 (.conv .u32 .u64) (v (.int .u32) 0)) (.o1 (.conv .u32 .u64) (v (.int .u32) 1))) (.int .u64 32))),a (.o1 (.conv .u64 .u32) (ar .mul (.o1 (.conv .u32 .u64) (v (.int .u32) 0)) (.o1 (.conv .u32 .u64) (v (.int .u32) 1))))]
def ZeM:Tr:=.ret [a (ar .add (ar .add (ar .mul (.o2 (.sh false .u64 .u64) (v (.int .u64) 0) (.int .u64 32)) (.o2 (.sh false .u64 .u64) (v (.int .u64) 1) (.int .u64 32))) (.o2 (.sh false .u64 .u64) (ar .add (ar .mul (.o2 (.sh false .u64 .u64) (v (.int .u64) 0) (.int .u64 32)) (ar .and (v (.int .u64) 1) (.int .u64 4294967295))) (.o2 (.sh false .u64 .u64) (ar .mul (ar .and (v (.int .u64) 0) (.int .u64 4294967295)) (ar .and (v (.int .u64) 1) (.int .u64 4294967295))) (.int .u64 32))) (.int .u64 32))) (.o2 (.sh false .u64 .u64) (ar .add (ar .and (ar .add (ar .mul (.o2 (.sh false .u64 .u64) (v (.int .u64) 0) (.int .u64 32)) (ar .and (v (.int .u64) 1) (.int .u64 4294967295))) (.o2 (.sh false .u64 .u64) (ar .mul (ar .and (v (.int .u64) 0) (.int .u64 4294967295)) (ar .and (v (.int .u64) 1) (.int .u64 4294967295))) (.int .u64 32))) (.int .u64 4294967295)) (ar .mul (ar .and (v (.int .u64) 0) (.int .u64 4294967295)) (.o2 (.sh false .u64 .u64) (v (.int .u64) 1) (.int .u64 32)))) (.int .u64 32))),a (ar .mul (v (.int .u64) 0) (v (.int .u64) 1))]
def ZeN:Tr:=.call Zco [a (v (.int .u64) 0),a (v (.int .u64) 1)] 100256
 (.ret [a (v (.int .u64) 100256),a (v (.int .u64) 100257)])
def ZeO:Tr:=.ite (lt (v I 1) (c 0))
 (.bad)
 (.call Zcp [a (.o1 (.conv .i64 .u64) (ln (v (L B) 0))),a (.o1 (.conv .i64 .u64) (v I 1))] 100512
 (.ite (cm .gtr (v (.int .u64) 100512) (.int .u64 0))
 (.bad)
 (.ite (cm .gtr (v (.int .u64) 100513) (.int .u64 9223372036854775807))
 (.bad)
 (.guard (le (c 0) (.o1 (.conv .u64 .i64) (v (.int .u64) 100513)))
 (.guard (le (.o1 (.conv .u64 .i64) (v (.int .u64) 100513)) (c 549755813888))
 (.loop [a (.o2 (.mn .i64) (ln (v (L B) 0)) (ln (rep (.o1 (.conv .u64 .i64) (v (.int .u64) 100513)) (z B)))),a (over (rep (.o1 (.conv .u64 .i64) (v (.int .u64) 100513)) (z B)) (v (L B) 0))]
 (.ite (lt (v I 0) (ln (v (L B) 1)))
 (.guard (le (c 0) (v I 0))
 (.guard (le (v I 0) (ln (v (L B) 1)))
 (.guard (le (v I 0) (ln (v (L B) 1)))
 (.guard (le (c 0) (v I 0))
 (.join
 (.jump 0 [a (add (v I 0) (.o2 (.mn .i64) (ln (drop (take (v (L B) 1) (v I 0)) (c 0))) (ln (drop (take (v (L B) 1) (ln (v (L B) 1))) (v I 0))))),a (app (app (take (v (L B) 1) (v I 0)) (over (drop (take (v (L B) 1) (ln (v (L B) 1))) (v I 0)) (drop (take (v (L B) 1) (v I 0)) (c 0)))) (drop (v (L B) 1) (ln (v (L B) 1))))])
 (.jump 0 [a (v I 0),a (v (L B) 1)]))))))
 (.ret [a (v (L B) 1)]))))))))
def ZeP:Tr:=.loop [a (c 0),a (sub (ln (v (L I) 0)) (c 1)),a (v (L I) 0)]
 (.ite (lt (v I 0) (v I 1))
 (.guard (le (c 0) (v I 1))
 (.guard (lt (v I 1) (ln (v (L I) 2)))
 (.guard (le (c 0) (v I 0))
 (.guard (lt (v I 0) (ln (v (L I) 2)))
 (.guard (le (c 0) (v I 0))
 (.guard (lt (v I 0) (ln (v (L I) 2)))
 (.guard (le (c 0) (v I 1))
 (.guard (lt (v I 1) (ln (st (v (L I) 2) (v I 0) (ix (v (L I) 2) (v I 1)))))
 (.jump 0 [a (add (v I 0) (c 1)),a (sub (v I 1) (c 1)),a (st (st (v (L I) 2) (v I 0) (ix (v (L I) 2) (v I 1))) (v I 1) (ix (v (L I) 2) (v I 0)))])))))))))
 (.ret [a (v (L I) 2)]))
def ZeQ:Tr:=.loop [a (v I 0),a (c 0)]
 (.guard (le (c 0) (v I 1))
 (.ite (lt (.o2 (.sh true .i64 .i64) (c 1) (v I 1)) (v I 0))
 (.jump 0 [a (v I 0),a (add (v I 1) (c 1))])
 (.ret [a (v I 1)])))
def ZeR:Tr:=.loop [a (v (L V3) 0),a (ln (v (L V3) 0)),a (c 0),a (nl I)]
 (.ite (lt (v I 2) (v I 1))
 (.guard (le (c 0) (v I 2))
 (.guard (lt (v I 2) (ln (v (L V3) 0)))
 (.call Zcs [a (add (sub (f (s (ix (v (L V3) 0) (v I 2)))) (f (ix (v (L V3) 0) (v I 2)))) (c 1))] 773
 (.guard (le (ln (v (L I) 3)) (c 549755813888))
 (.guard (le (ln (one (v I 773))) (c 549755813888))
 (.jump 0 [a (v (L V3) 0),a (v I 1),a (add (v I 2) (c 1)),a (app (v (L I) 3) (one (v I 773)))]))))))
 (.call Zc1 [a (v (L I) 3)] 133
 (.ret [a (v (L I) 133)])))
def ZeS:Tr:=.guard (le (c 0) (v I 1))
 (.guard (le (v I 1) (c 549755813888))
 (.loop [a (v I 0),a (v I 1),a (ln (rep (v I 1) (z I))),a (c 0),a (rep (v I 1) (z I))]
 (.ite (lt (v I 3) (v I 2))
 (.guard (le (c 0) (sub (sub (v I 1) (c 1)) (v I 3)))
 (.guard (le (c 0) (v I 3))
 (.guard (lt (v I 3) (ln (v (L I) 4)))
 (.jump 0 [a (v I 0),a (v I 1),a (v I 2),a (add (v I 3) (c 1)),a (st (v (L I) 4) (v I 3) (ar .and (.o2 (.sh false .i64 .i64) (v I 0) (sub (sub (v I 1) (c 1)) (v I 3))) (c 1)))]))))
 (.ret [a (v (L I) 4)]))))
def ZeT:Tr:=.call Zct [a (v (L V3) 0),a (v (L TR) 1)] 100256
 (.loop [a (v (L I) 2),a (ln (v (L I) 100256)),a (c 0),a (v (L V3) 0),a (v (L TR) 1),a (nl I),a (v (L I) 100256)]
 (.ite (lt (v I 2) (v I 1))
 (.guard (le (c 0) (v I 2))
 (.guard (lt (v I 2) (ln (v (L I) 6)))
 (.guard (le (c 0) (v I 2))
 (.guard (lt (v I 2) (ln (v (L I) 0)))
 (.guard (le (c 0) (v I 2))
 (.guard (lt (v I 2) (ln (v (L V3) 3)))
 (.call Zcu [a (sub (ix (v (L I) 0) (v I 2)) (f (ix (v (L V3) 3) (v I 2)))),a (ix (v (L I) 6) (v I 2))] 1226
 (.guard (le (ln (v (L I) 5)) (c 549755813888))
 (.guard (le (ln (v (L I) 1226)) (c 549755813888))
 (.jump 0 [a (v (L I) 0),a (v I 1),a (add (v I 2) (c 1)),a (v (L V3) 3),a (v (L TR) 4),a (app (v (L I) 5) (v (L I) 1226)),a (v (L I) 6)]))))))))))
 (.call Zc1 [a (v (L I) 5)] 138
 (.ret [a (v (L I) 138)]))))
def ZeU:Tr:=.loop [a (v (L I) 1),a (v (L I) 0),a (ln (v (L I) 0)),a (c 0)]
 (.ite (lt (v I 3) (v I 2))
 (.join
 (.guard (le (c 0) (v I 3))
 (.guard (lt (v I 3) (ln (v (L I) 1)))
 (.ite (ne (ix (v (L I) 1) (v I 3)) (c 2))
 (.guard (le (c 0) (v I 3))
 (.guard (lt (v I 3) (ln (v (L I) 0)))
 (.ite (ne (ix (v (L I) 1) (v I 3)) (ix (v (L I) 0) (v I 3)))
 (.ret [a (k false)])
 (.jump 0 [a (v (L I) 0),a (v (L I) 1),a (v I 2),a (v I 3)]))))
 (.jump 0 [a (v (L I) 0),a (v (L I) 1),a (v I 2),a (v I 3)]))))
 (.jump 0 [a (v (L I) 0),a (v (L I) 1),a (v I 2),a (add (v I 3) (c 1))]))
 (.ret [a (k true)]))
def ZeV:Tr:=.call ZbO [a (v (L V3) 0)] 100256
 (.guard (le (c 0) (v I 100256))
 (.guard (le (v I 100256) (c 549755813888))
 (.loop [a (v (L I) 2),a (ln (rep (v I 100256) (z B))),a (c 0),a (v (L V3) 0),a (v (L TR) 1),a (rep (v I 100256) (z B))]
 (.ite (lt (v I 2) (v I 1))
 (.call ZbV [a (v (L V3) 3),a (v (L TR) 4),a (v I 2)] 584
 (.call Zcv [a (v (L V3) 3),a (v (L TR) 4),a (v (L I) 584)] 648
 (.call Zcw [a (v (L I) 0),a (v (L I) 648)] 712
 (.guard (le (c 0) (v I 2))
 (.guard (lt (v I 2) (ln (v (L B) 5)))
 (.jump 0 [a (v (L I) 0),a (v I 1),a (add (v I 2) (c 1)),a (v (L V3) 3),a (v (L TR) 4),a (st (v (L B) 5) (v I 2) (v B 712))]))))))
 (.call Zcf [a (v (L B) 5)] 136
 (.ret [a (v (L I) 136)]))))))
def ZeW:Tr:=.call Zcx [a (v (L V3) 0),a (v (L TR) 1),a (v (L I) 4)] 100448
 (.call ZbO [a (v (L V3) 0)] 100512
 (.call Zcd [a (v (L I) 100448),a (v I 100512)] 100576
 (.join
 (.jump 0 [a (v (L I) 3),a (v (L V3) 0),a (v (L TR) 1),a (v (L (L I)) 2),a (v (L B) 100576)])
 (.call Zc2 [a (v (L V3) 1),a (v (L TR) 2)] 201
 (.call Zc3 [a (v (L V3) 1),a (v (L TR) 2),a (v (L I) 201)] 265
 (.guard (le (c 0) (v I 265))
 (.guard (lt (v I 265) (ln (v (L B) 4)))
 (.ite (ix (v (L B) 4) (v I 265))
 (.ret [a (k false)])
 (.loop [a (v (L I) 0),a (ln (v (L I) 0)),a (c 0),a (v (L B) 4),a (v (L (L I)) 3)]
 (.ite (lt (v I 2) (v I 1))
 (.join
 (.guard (le (c 0) (v I 2))
 (.guard (lt (v I 2) (ln (v (L I) 0)))
 (.guard (le (c 0) (ix (v (L I) 0) (v I 2)))
 (.guard (lt (ix (v (L I) 0) (v I 2)) (ln (v (L B) 3)))
 (.ite (nt (ix (v (L B) 3) (ix (v (L I) 0) (v I 2))))
 (.guard (le (c 0) (ix (v (L I) 0) (v I 2)))
 (.guard (lt (ix (v (L I) 0) (v I 2)) (ln (v (L (L I)) 4)))
 (.loop [a (ix (v (L (L I)) 4) (ix (v (L I) 0) (v I 2))),a (ln (ix (v (L (L I)) 4) (ix (v (L I) 0) (v I 2)))),a (c 0),a (v (L I) 0),a (v I 2),a (v I 1),a (v I 2),a (v (L B) 3),a (v (L (L I)) 4)]
 (.ite (lt (v I 2) (v I 1))
 (.guard (le (c 0) (v I 2))
 (.guard (lt (v I 2) (ln (v (L I) 0)))
 (.guard (le (c 0) (ix (v (L I) 0) (v I 2)))
 (.guard (lt (ix (v (L I) 0) (v I 2)) (ln (v (L B) 7)))
 (.ite (ix (v (L B) 7) (ix (v (L I) 0) (v I 2)))
 (.ite (ge (v I 2) (c 0))
 (.ret [a (nt (ge (v I 4) (c 0)))])
 (.jump 1 [a (v (L I) 3),a (v I 5),a (v I 6),a (v (L B) 7),a (v (L (L I)) 8)]))
 (.jump 0 [a (v (L I) 0),a (v I 1),a (add (v I 2) (c 1)),a (v (L I) 3),a (v I 4),a (v I 5),a (v I 6),a (v (L B) 7),a (v (L (L I)) 8)]))))))
 (.jump 1 [a (v (L I) 3),a (v I 5),a (v I 6),a (v (L B) 7),a (v (L (L I)) 8)])))))
 (.jump 0 [a (v (L I) 0),a (v I 1),a (v I 2),a (v (L B) 3),a (v (L (L I)) 4)]))))))
 (.jump 0 [a (v (L I) 0),a (v I 1),a (add (v I 2) (c 1)),a (v (L B) 3),a (v (L (L I)) 4)]))
 (.ret [a (nt (ge (c (-1)) (c 0)))])))))))))))
def ZeX:Tr:=.call ZbV [a (v (L V3) 0),a (v (L TR) 1),a (v I 4)] 100512
 (.call Zcv [a (v (L V3) 0),a (v (L TR) 1),a (v (L I) 100512)] 100576
 (.call Zcy [a (v (L V3) 0),a (v (L TR) 1),a (v (L (L I)) 2),a (v (L I) 3),a (v (L I) 100576)] 101344
 (.ite (nt (v B 101344))
 (.ret [a (nl I),a (k false)])
 (.call Zc1 [a (v (L I) 100576)] 102048
 (.loop [a (ln (v (L I) 100576)),a (c 0),a (v (L V3) 0),a (v (L TR) 1),a (v (L (L I)) 2),a (v (L I) 3),a (v (L I) 102048),a (v (L I) 100576)]
 (.ite (lt (v I 1) (v I 0))
 (.join
 (.guard (le (c 0) (v I 1))
 (.guard (lt (v I 1) (ln (v (L I) 7)))
 (.guard (le (c 0) (v I 1))
 (.guard (lt (v I 1) (ln (v (L I) 6)))
 (.call Zcy [a (v (L V3) 2),a (v (L TR) 3),a (v (L (L I)) 4),a (v (L I) 5),a (st (v (L I) 6) (v I 1) (c 2))] 1165
 (.ite (nt (v B 1165))
 (.guard (le (c 0) (v I 1))
 (.guard (lt (v I 1) (ln (st (v (L I) 6) (v I 1) (c 2))))
 (.jump 0 [a (v I 0),a (v I 1),a (v (L V3) 2),a (v (L TR) 3),a (v (L (L I)) 4),a (v (L I) 5),a (st (st (v (L I) 6) (v I 1) (c 2)) (v I 1) (ix (v (L I) 7) (v I 1))),a (v (L I) 7)])))
 (.jump 0 [a (v I 0),a (v I 1),a (v (L V3) 2),a (v (L TR) 3),a (v (L (L I)) 4),a (v (L I) 5),a (st (v (L I) 6) (v I 1) (c 2)),a (v (L I) 7)])))))))
 (.jump 0 [a (v I 0),a (add (v I 1) (c 1)),a (v (L V3) 2),a (v (L TR) 3),a (v (L (L I)) 4),a (v (L I) 5),a (v (L I) 6),a (v (L I) 7)]))
 (.ret [a (v (L I) 6),a (k true)])))))))
def ZeY:Tr:=.call Zcx [a (f (f (v YU 0))),a (s (f (v YU 0))),a (v (L I) 1)] 100320
 (.loop [a (v I 2),a (v I 3),a (ln (v (L I) 100320)),a (c 0),a (f (f (v YU 0))),a (s (f (v YU 0))),a (f (s (v YU 0))),a (f (s (s (v YU 0)))),a (f (s (s (s (s (v YU 0)))))),a (f (s (s (s (s (s (v YU 0))))))),a (s (s (s (s (s (s (v YU 0))))))),a (f (s (s (s (v YU 0))))),a (v (L I) 100320)]
 (.ite (lt (v I 3) (v I 2))
 (.guard (le (c 0) (v I 3))
 (.guard (lt (v I 3) (ln (v (L I) 12)))
 (.loop [a (v I 0),a (v I 1),a (ix (v (L I) 12) (v I 3)),a (v I 0),a (v I 2),a (v I 3),a (v (L V3) 4),a (v (L TR) 5),a (v (L (L I)) 6),a (v (L (L I)) 7),a (v (L (P (L I) I)) 8),a (v (L I) 9),a (v (L I) 10),a (v (L (L B)) 11),a (v (L I) 12)]
 (.ite (le (v I 3) (v I 1))
 (.guard (le (c 0) (v I 3))
 (.guard (lt (v I 3) (ln (v (L (L B)) 13)))
 (.guard (le (c 0) (v I 2))
 (.guard (lt (v I 2) (ln (ix (v (L (L B)) 13) (v I 3))))
 (.jump 0 [a (v I 0),a (v I 1),a (v I 2),a (add (v I 3) (c 1)),a (v I 4),a (v I 5),a (v (L V3) 6),a (v (L TR) 7),a (v (L (L I)) 8),a (v (L (L I)) 9),a (v (L (P (L I) I)) 10),a (v (L I) 11),a (v (L I) 12),a (st (v (L (L B)) 13) (v I 3) (st (ix (v (L (L B)) 13) (v I 3)) (v I 2) (k false))),a (v (L I) 14)])))))
 (.jump 1 [a (v I 0),a (v I 1),a (v I 4),a (add (v I 5) (c 1)),a (v (L V3) 6),a (v (L TR) 7),a (v (L (L I)) 8),a (v (L (L I)) 9),a (v (L (P (L I) I)) 10),a (v (L I) 11),a (v (L I) 12),a (v (L (L B)) 13),a (v (L I) 14)])))))
 (.ret [a (pr (pr (v (L V3) 4) (v (L TR) 5)) (pr (v (L (L I)) 6) (pr (v (L (L I)) 7) (pr (v (L (L B)) 11) (pr (v (L (P (L I) I)) 8) (pr (v (L I) 9) (v (L I) 10)))))))])))
def ZeZ:Tr:=.guard (le (ln (f (s (s (s (s (s (v YT 0)))))))) (c 549755813888))
 (.guard (le (ln (one (v I 1))) (c 549755813888))
 (.join
 (.jump 0 [a (v I 1),a (f (f (v YT 0))),a (s (f (v YT 0))),a (f (s (v YT 0))),a (f (s (s (v YT 0)))),a (s (s (s (s (s (s (v YT 0))))))),a (f (s (s (s (v YT 0))))),a (f (s (s (s (s (v YT 0)))))),a (app (f (s (s (s (s (s (v YT 0))))))) (one (v I 1))),a (v I 2)])
 (.call Zc2 [a (v (L V3) 1),a (v (L TR) 2)] 592
 (.call Zc3 [a (v (L V3) 1),a (v (L TR) 2),a (v (L I) 592)] 656
 (.ite (eq (v I 0) (v I 656))
 (.guard (le (ln (v (L I) 8)) (c 549755813888))
 (.join
 (.jump 0 [a (v (L V3) 1),a (v (L TR) 2),a (v (L (L I)) 3),a (v (L (L I)) 4),a (v (L (L B)) 6),a (v (L (P (L I) I)) 7),a (v (L I) 8),a (v (L I) 8)])
 (.call Zcr [a (v (L I) 7)] 270
 (.guard (nt (emp (v (L I) 270)))
 (.ret [a (k false),a (pr (pr (v (L V3) 0) (v (L TR) 1)) (pr (v (L (L I)) 2) (pr (v (L (L I)) 3) (pr (v (L (L B)) 4) (pr (v (L (P (L I) I)) 5) (pr (v (L I) 6) (re true (v (L I) 270))))))))])))))
 (.loop [a (v I 0),a (v (L V3) 1),a (v (L TR) 2),a (v (L (L I)) 3),a (v (L (L I)) 4),a (v (N I) 5),a (v (L (L B)) 6),a (v (L (P (L I) I)) 7),a (v (L I) 8),a (v I 9)]
 (.guard (le (c 0) (v I 9))
 (.guard (lt (v I 9) (ln (v (L (L B)) 6)))
 (.guard (le (c 0) (v I 0))
 (.guard (lt (v I 0) (ln (ix (v (L (L B)) 6) (v I 9))))
 (.ite (ix (ix (v (L (L B)) 6) (v I 9)) (v I 0))
 (.join
 (.guard (le (c 0) (v I 0))
 (.guard (lt (v I 0) (ln (v (L (L I)) 4)))
 (.loop [a (ix (v (L (L I)) 4) (v I 0)),a (ln (ix (v (L (L I)) 4) (v I 0))),a (c 0),a (v I 0),a (v (L V3) 1),a (v (L TR) 2),a (v (L (L I)) 3),a (v (L (L I)) 4),a (v (N I) 5),a (v (L (L B)) 6),a (v (L (P (L I) I)) 7),a (v (L I) 8),a (v I 9)]
 (.ite (lt (v I 2) (v I 1))
 (.guard (le (c 0) (v I 2))
 (.guard (lt (v I 2) (ln (v (L I) 0)))
 (.guard (le (c 0) (sub (v I 12) (c 1)))
 (.guard (lt (sub (v I 12) (c 1)) (ln (v (L (L B)) 9)))
 (.guard (le (c 0) (ix (v (L I) 0) (v I 2)))
 (.guard (lt (ix (v (L I) 0) (v I 2)) (ln (ix (v (L (L B)) 9) (sub (v I 12) (c 1)))))
 (.ite (ix (ix (v (L (L B)) 9) (sub (v I 12) (c 1))) (ix (v (L I) 0) (v I 2)))
 (.jump 1 [a (v I 3),a (v I 2),a (v (L V3) 4),a (v (L TR) 5),a (v (L (L I)) 6),a (v (L (L I)) 7),a (v (N I) 8),a (v (L (L B)) 9),a (v (L (P (L I) I)) 10),a (v (L I) 11),a (v I 12)])
 (.jump 0 [a (v (L I) 0),a (v I 1),a (add (v I 2) (c 1)),a (v I 3),a (v (L V3) 4),a (v (L TR) 5),a (v (L (L I)) 6),a (v (L (L I)) 7),a (v (N I) 8),a (v (L (L B)) 9),a (v (L (P (L I) I)) 10),a (v (L I) 11),a (v I 12)]))))))))
 (.jump 1 [a (v I 3),a (c (-1)),a (v (L V3) 4),a (v (L TR) 5),a (v (L (L I)) 6),a (v (L (L I)) 7),a (v (N I) 8),a (v (L (L B)) 9),a (v (L (P (L I) I)) 10),a (v (L I) 11),a (v I 12)])))))
 (.ite (ge (v I 1) (c 0))
 (.guard (le (c 0) (v I 0))
 (.guard (lt (v I 0) (ln (v (L (L I)) 5)))
 (.guard (le (c 0) (v I 1))
 (.guard (lt (v I 1) (ln (ix (v (L (L I)) 5) (v I 0))))
 (.call ZcB [a (pr (pr (v (L V3) 2) (v (L TR) 3)) (pr (v (L (L I)) 4) (pr (v (L (L I)) 5) (pr (v (L (L B)) 7) (pr (v (L (P (L I) I)) 8) (pr (v (L I) 9) (v (N I) 6))))))),a (ix (ix (v (L (L I)) 5) (v I 0)) (v I 1)),a (sub (v I 10) (c 1))] 977
 (.ite (nt (v B 977))
 (.ret [a (k false),a (pr (pr (v (L V3) 2) (v (L TR) 3)) (pr (v (L (L I)) 4) (pr (v (L (L I)) 5) (pr (f (s (s (s (v YT 978))))) (pr (f (s (s (s (s (v YT 978)))))) (pr (f (s (s (s (s (s (v YT 978))))))) (s (s (s (s (s (s (v YT 978)))))))))))))])
 (.jump 0 [a (v I 0),a (v (L V3) 2),a (v (L TR) 3),a (v (L (L I)) 4),a (v (L (L I)) 5),a (s (s (s (s (s (s (v YT 978))))))),a (f (s (s (s (v YT 978))))),a (f (s (s (s (s (v YT 978)))))),a (f (s (s (s (s (s (v YT 978))))))),a (v I 10)])))))))
 (.guard (le (c 0) (sub (v I 10) (c 1)))
 (.guard (lt (sub (v I 10) (c 1)) (ln (v (L (L B)) 7)))
 (.call Zcf [a (ix (v (L (L B)) 7) (sub (v I 10) (c 1)))] 1233
 (.call Zcz [a (v (L V3) 2),a (v (L TR) 3),a (v (L (L I)) 4),a (v (L I) 1233),a (v I 0)] 1297
 (.call ZcA [a (pr (pr (v (L V3) 2) (v (L TR) 3)) (pr (v (L (L I)) 4) (pr (v (L (L I)) 5) (pr (v (L (L B)) 7) (pr (v (L (P (L I) I)) 8) (pr (v (L I) 9) (re false (v (N I) 6)))))))),a (v (L I) 1297),a (c 1),a (v I 10)] 1873
 (.guard (le (ln (v (L (P (L I) I)) 8)) (c 549755813888))
 (.guard (le (ln (one (pr (v (L I) 1297) (v I 10)))) (c 549755813888))
 (.join
 (.jump 0 [a (v I 0),a (v (L V3) 2),a (v (L TR) 3),a (v (L (L I)) 4),a (v (L (L I)) 5),a (v (N I) 6),a (f (s (s (s (v YU 1873))))),a (app (v (L (P (L I) I)) 8) (one (pr (v (L I) 1297) (v I 10)))),a (v (L I) 9),a (v I 10)])
 (.jump 0 [a (v I 0),a (v (L V3) 1),a (v (L TR) 2),a (v (L (L I)) 3),a (v (L (L I)) 4),a (v (N I) 5),a (v (L (L B)) 6),a (v (L (P (L I) I)) 7),a (v (L I) 8),a (v I 9)])))))))))))
 (.guard (le (sub (ln (v (L I) 8)) (c 1)) (ln (v (L I) 8)))
 (.guard (le (c 0) (sub (ln (v (L I) 8)) (c 1)))
 (.join
 (.jump 0 [a (v (L V3) 1),a (v (L TR) 2),a (v (L (L I)) 3),a (v (L (L I)) 4),a (v (N I) 5),a (v (L (L B)) 6),a (v (L (P (L I) I)) 7),a (take (v (L I) 8) (sub (ln (v (L I) 8)) (c 1)))])
 (.ret [a (k true),a (pr (pr (v (L V3) 0) (v (L TR) 1)) (pr (v (L (L I)) 2) (pr (v (L (L I)) 3) (pr (v (L (L B)) 5) (pr (v (L (P (L I) I)) 6) (pr (v (L I) 7) (v (N I) 4)))))))])))))))))))))))
def Ze_:Tr:=.loop [a (c 1),a (f (f (v YT 0))),a (s (f (v YT 0))),a (f (s (v YT 0))),a (f (s (s (v YT 0)))),a (s (s (s (s (s (s (v YT 0))))))),a (f (s (s (s (v YT 0))))),a (f (s (s (s (s (v YT 0)))))),a (f (s (s (s (s (s (v YT 0)))))))]
 (.ite (lt (v I 0) (sub (ln (v (L (L B)) 6)) (c 1)))
 (.guard (le (c 0) (v I 0))
 (.guard (lt (v I 0) (ln (v (L (L B)) 6)))
 (.call Zcf [a (ix (v (L (L B)) 6) (v I 0))] 973
 (.loop [a (v I 0),a (ln (v (L (P (L I) I)) 7)),a (c 0),a (v (L V3) 1),a (v (L TR) 2),a (v (L (L I)) 3),a (v (L (L I)) 4),a (v (N I) 5),a (v (L (L B)) 6),a (v (L (P (L I) I)) 7),a (v (L I) 8),a (v (L I) 973),a (nl (P (L I) I)),a (nl (P (L I) I))]
 (.ite (lt (v I 2) (v I 1))
 (.join
 (.guard (le (c 0) (v I 2))
 (.guard (lt (v I 2) (ln (v (L (P (L I) I)) 9)))
 (.ite (eq (s (ix (v (L (P (L I) I)) 9) (v I 2))) (v I 0))
 (.call Zcy [a (v (L V3) 3),a (v (L TR) 4),a (v (L (L I)) 5),a (v (L I) 11),a (f (ix (v (L (P (L I) I)) 9) (v I 2)))] 1365
 (.ite (v B 1365)
 (.call ZcA [a (pr (pr (v (L V3) 3) (v (L TR) 4)) (pr (v (L (L I)) 5) (pr (v (L (L I)) 6) (pr (v (L (L B)) 8) (pr (v (L (P (L I) I)) 9) (pr (v (L I) 10) (re false (v (N I) 7)))))))),a (f (ix (v (L (P (L I) I)) 9) (v I 2))),a (add (v I 0) (c 1)),a (add (v I 0) (c 1))] 1941
 (.guard (le (ln (v (L (P (L I) I)) 13)) (c 549755813888))
 (.guard (le (ln (one (pr (f (ix (v (L (P (L I) I)) 9) (v I 2))) (add (v I 0) (c 1))))) (c 549755813888))
 (.jump 0 [a (v I 0),a (v I 1),a (v I 2),a (v (L V3) 3),a (v (L TR) 4),a (v (L (L I)) 5),a (v (L (L I)) 6),a (v (N I) 7),a (f (s (s (s (v YU 1941))))),a (v (L (P (L I) I)) 9),a (v (L I) 10),a (v (L I) 11),a (v (L (P (L I) I)) 12),a (app (v (L (P (L I) I)) 13) (one (pr (f (ix (v (L (P (L I) I)) 9) (v I 2))) (add (v I 0) (c 1)))))]))))
 (.guard (le (ln (v (L (P (L I) I)) 12)) (c 549755813888))
 (.guard (le (ln (one (pr (f (ix (v (L (P (L I) I)) 9) (v I 2))) (s (ix (v (L (P (L I) I)) 9) (v I 2)))))) (c 549755813888))
 (.jump 0 [a (v I 0),a (v I 1),a (v I 2),a (v (L V3) 3),a (v (L TR) 4),a (v (L (L I)) 5),a (v (L (L I)) 6),a (v (N I) 7),a (v (L (L B)) 8),a (v (L (P (L I) I)) 9),a (v (L I) 10),a (v (L I) 11),a (app (v (L (P (L I) I)) 12) (one (pr (f (ix (v (L (P (L I) I)) 9) (v I 2))) (s (ix (v (L (P (L I) I)) 9) (v I 2)))))),a (v (L (P (L I) I)) 13)])))))
 (.guard (le (ln (v (L (P (L I) I)) 12)) (c 549755813888))
 (.guard (le (ln (one (pr (f (ix (v (L (P (L I) I)) 9) (v I 2))) (s (ix (v (L (P (L I) I)) 9) (v I 2)))))) (c 549755813888))
 (.jump 0 [a (v I 0),a (v I 1),a (v I 2),a (v (L V3) 3),a (v (L TR) 4),a (v (L (L I)) 5),a (v (L (L I)) 6),a (v (N I) 7),a (v (L (L B)) 8),a (v (L (P (L I) I)) 9),a (v (L I) 10),a (v (L I) 11),a (app (v (L (P (L I) I)) 12) (one (pr (f (ix (v (L (P (L I) I)) 9) (v I 2))) (s (ix (v (L (P (L I) I)) 9) (v I 2)))))),a (v (L (P (L I) I)) 13)]))))))
 (.jump 0 [a (v I 0),a (v I 1),a (add (v I 2) (c 1)),a (v (L V3) 3),a (v (L TR) 4),a (v (L (L I)) 5),a (v (L (L I)) 6),a (v (N I) 7),a (v (L (L B)) 8),a (v (L (P (L I) I)) 9),a (v (L I) 10),a (v (L I) 11),a (v (L (P (L I) I)) 12),a (v (L (P (L I) I)) 13)]))
 (.guard (le (ln (v (L (P (L I) I)) 12)) (c 549755813888))
 (.guard (le (ln (v (L (P (L I) I)) 13)) (c 549755813888))
 (.jump 1 [a (add (v I 0) (c 1)),a (v (L V3) 3),a (v (L TR) 4),a (v (L (L I)) 5),a (v (L (L I)) 6),a (v (N I) 7),a (v (L (L B)) 8),a (app (v (L (P (L I) I)) 12) (v (L (P (L I) I)) 13)),a (v (L I) 10)]))))))))
 (.ret [a (pr (pr (v (L V3) 1) (v (L TR) 2)) (pr (v (L (L I)) 3) (pr (v (L (L I)) 4) (pr (v (L (L B)) 6) (pr (v (L (P (L I) I)) 7) (pr (v (L I) 8) (v (N I) 5)))))))]))
def Zf0:Tr:=.loop [a (v (L (L I)) 0),a (c 1)]
 (.ite (lt (add (v I 1) (c 1)) (ln (v (L (L I)) 0)))
 (.guard (le (c 0) (v I 1))
 (.guard (lt (v I 1) (ln (v (L (L I)) 0)))
 (.guard (le (c 0) (add (v I 1) (c 1)))
 (.guard (lt (add (v I 1) (c 1)) (ln (v (L (L I)) 0)))
 (.call Zcg [a (ix (v (L (L I)) 0) (v I 1)),a (ix (v (L (L I)) 0) (add (v I 1) (c 1)))] 898
 (.ite (v B 898)
 (.ret [a (v I 1)])
 (.jump 0 [a (v (L (L I)) 0),a (add (v I 1) (c 1))])))))))
 (.ret [a (c (-1))]))
def Zf1:Tr:=.call Zc0 [a (v (L V3) 0),a (v (L TR) 1),a (v (L T4) 2)] 100320
 (.ite (nt (v B 100321))
 (.ret [a (k false),a (nl (L I)),a (nl I),a (nl (L I)),a (nl I),a (k false)])
 (.call Zc2 [a (v (L V3) 0),a (v (L TR) 1)] 101152
 (.call Zc3 [a (v (L V3) 0),a (v (L TR) 1),a (v (L I) 101152)] 101216
 (.call Zcc [a (v (L V3) 0),a (v (L TR) 1)] 101600
 (.call Zcd [a (one (v I 101216)),a (ln (v (L B) 100320))] 101728
 (.join
 (.jump 0 [a (ln (v (L B) 100320)),a (v I 101216),a (k false),a (v (L B) 100320),a (v (L V3) 0),a (v (L TR) 1),a (v (L (L I)) 101600),a (one (v (L B) 101728))])
 (.call Zce [a (v (L (L I)) 6)] 333
 (.guard (le (c 0) (v I 1))
 (.guard (lt (v I 1) (ln (v (L B) 3)))
 (.ite (nt (ix (v (L B) 3) (v I 1)))
 (.guard (nt (emp (one (v I 1))))
 (.call Zcm [a (pr (pr (v (L V3) 4) (v (L TR) 5)) (pr (v (L (L I)) 6) (pr (v (L (L I)) 333) (pr (v (L (L B)) 7) (pr (nl (P (L I) I)) (pr (nl I) (re true (one (v I 1)))))))))] 1357
 (.ret [a (v B 1357),a (v (L (L I)) 1358),a (v (L I) 1359),a (v (L (L I)) 1360),a (v (L I) 1361),a (k true)])))
 (.loop [a (v I 0),a (v B 2),a (v (L B) 3),a (v (L V3) 4),a (v (L TR) 5),a (v (L (L I)) 6),a (v (L (L I)) 333),a (.nil true I),a (v (L (L B)) 7),a (nl (P (L I) I)),a (nl I)]
 (.ite (lt (ln (v (L (L B)) 8)) (c 30))
 (.call Zcq [a (one (k true)),a (v I 0)] 849
 (.guard (le (ln (v (L (L B)) 8)) (c 549755813888))
 (.guard (le (ln (one (v (L B) 849))) (c 549755813888))
 (.loop [a (v I 0),a (sub (ln (app (v (L (L B)) 8) (one (v (L B) 849)))) (c 1)),a (v I 0),a (c 0),a (v B 1),a (v (L B) 2),a (v (L V3) 3),a (v (L TR) 4),a (v (L (L I)) 5),a (v (L (L I)) 6),a (v (N I) 7),a (app (v (L (L B)) 8) (one (v (L B) 849))),a (v (L (P (L I) I)) 9),a (v (L I) 10)]
 (.ite (lt (v I 3) (v I 2))
 (.join
 (.guard (le (c 0) (v I 1))
 (.guard (lt (v I 1) (ln (v (L (L B)) 11)))
 (.guard (le (c 0) (v I 3))
 (.guard (lt (v I 3) (ln (ix (v (L (L B)) 11) (v I 1))))
 (.ite (ix (ix (v (L (L B)) 11) (v I 1)) (v I 3))
 (.guard (le (c 0) (v I 3))
 (.guard (lt (v I 3) (ln (v (L B) 5)))
 (.ite (nt (ix (v (L B) 5) (v I 3)))
 (.call ZcB [a (pr (pr (v (L V3) 6) (v (L TR) 7)) (pr (v (L (L I)) 8) (pr (v (L (L I)) 9) (pr (v (L (L B)) 11) (pr (v (L (P (L I) I)) 12) (pr (v (L I) 13) (v (N I) 10))))))),a (v I 3),a (v I 1)] 1556
 (.ite (nt (v B 1556))
 (.call Zcm [a (pr (pr (v (L V3) 6) (v (L TR) 7)) (pr (v (L (L I)) 8) (pr (v (L (L I)) 9) (pr (f (s (s (s (v YT 1557))))) (pr (f (s (s (s (s (v YT 1557)))))) (pr (f (s (s (s (s (s (v YT 1557))))))) (s (s (s (s (s (s (v YT 1557)))))))))))))] 1812
 (.ret [a (v B 1812),a (v (L (L I)) 1813),a (v (L I) 1814),a (v (L (L I)) 1815),a (v (L I) 1816),a (k true)]))
 (.jump 0 [a (v I 0),a (v I 1),a (v I 2),a (v I 3),a (v B 4),a (v (L B) 5),a (v (L V3) 6),a (v (L TR) 7),a (v (L (L I)) 8),a (v (L (L I)) 9),a (s (s (s (s (s (s (v YT 1557))))))),a (f (s (s (s (v YT 1557))))),a (f (s (s (s (s (v YT 1557)))))),a (f (s (s (s (s (s (v YT 1557)))))))])))
 (.jump 0 [a (v I 0),a (v I 1),a (v I 2),a (v I 3),a (v B 4),a (v (L B) 5),a (v (L V3) 6),a (v (L TR) 7),a (v (L (L I)) 8),a (v (L (L I)) 9),a (v (N I) 10),a (v (L (L B)) 11),a (v (L (P (L I) I)) 12),a (v (L I) 13)]))))
 (.jump 0 [a (v I 0),a (v I 1),a (v I 2),a (v I 3),a (v B 4),a (v (L B) 5),a (v (L V3) 6),a (v (L TR) 7),a (v (L (L I)) 8),a (v (L (L I)) 9),a (v (N I) 10),a (v (L (L B)) 11),a (v (L (P (L I) I)) 12),a (v (L I) 13)]))))))
 (.jump 0 [a (v I 0),a (v I 1),a (v I 2),a (add (v I 3) (c 1)),a (v B 4),a (v (L B) 5),a (v (L V3) 6),a (v (L TR) 7),a (v (L (L I)) 8),a (v (L (L I)) 9),a (v (N I) 10),a (v (L (L B)) 11),a (v (L (P (L I) I)) 12),a (v (L I) 13)]))
 (.call ZcC [a (pr (pr (v (L V3) 6) (v (L TR) 7)) (pr (v (L (L I)) 8) (pr (v (L (L I)) 9) (pr (v (L (L B)) 11) (pr (v (L (P (L I) I)) 12) (pr (v (L I) 13) (v (N I) 10)))))))] 148
 (.call Zcm [a (pr (pr (v (L V3) 6) (v (L TR) 7)) (pr (v (L (L I)) 8) (pr (v (L (L I)) 9) (pr (f (s (s (s (v YT 148))))) (pr (f (s (s (s (s (v YT 148)))))) (pr (f (s (s (s (s (s (v YT 148))))))) (s (s (s (s (s (s (v YT 148)))))))))))))] 276
 (.call ZcD [a (v (L (L I)) 277)] 596
 (.ite (ge (v I 596) (c 0))
 (.guard (le (c 0) (v I 596))
 (.guard (lt (v I 596) (ln (v (L (L I)) 277)))
 (.call Zc1 [a (ix (v (L (L I)) 277) (v I 596))] 1300
 (.ret [a (k true),a (v (L (L I)) 277),a (v (L I) 1300),a (v (L (L I)) 279),a (v (L I) 280),a (k true)]))))
 (.jump 1 [a (v I 0),a (v B 4),a (v (L B) 5),a (v (L V3) 6),a (v (L TR) 7),a (v (L (L I)) 8),a (v (L (L I)) 9),a (s (s (s (s (s (s (v YT 281))))))),a (f (s (s (s (v YT 281))))),a (f (s (s (s (s (v YT 281)))))),a (f (s (s (s (s (s (v YT 281)))))))]))))))))))
 (.ret [a (k false),a (nl (L I)),a (nl I),a (nl (L I)),a (nl I),a (k false)])))))))))))))
def Zf2:Tr:=.call Zbw [a (v (L T4) 0),a (v I 1)] 100192
 (.ite (gt (ln (v (L I) 100192)) (c 0))
 (.guard (le (c 0) (sub (ln (v (L I) 100192)) (c 1)))
 (.guard (lt (sub (ln (v (L I) 100192)) (c 1)) (ln (v (L I) 100192)))
 (.ret [a (eq (ix (v (L I) 100192) (sub (ln (v (L I) 100192)) (c 1))) (v I 2))])))
 (.ret [a (k false)]))
def Zf3:Tr:=.call ZcF [a (v (L T4) 0),a (v I 3),a (c 2)] 100320
 (.ite (nt (v B 100320))
 (.ret [a (k false)])
 (.ite (ne (ln (v (L I) 1)) (ln (v (L (L T4)) 2)))
 (.ret [a (k false)])
 (.ite (gt (ln (v (L I) 1)) (v I 3))
 (.ret [a (k false)])
 (.loop [a (v I 3),a (c 0),a (v (L T4) 0),a (v (L I) 1),a (v (L (L T4)) 2)]
 (.ite (lt (v I 1) (ln (v (L I) 3)))
 (.join
 (.guard (le (c 0) (v I 1))
 (.guard (lt (v I 1) (ln (v (L I) 3)))
 (.call Zbt [a (ix (v (L I) 3) (v I 1)),a (c 0),a (sub (v I 0) (c 1))] 774
 (.ite (nt (v B 774))
 (.ret [a (k false)])
 (.ite (gt (v I 1) (c 0))
 (.guard (le (c 0) (v I 1))
 (.guard (lt (v I 1) (ln (v (L I) 3)))
 (.guard (le (c 0) (sub (v I 1) (c 1)))
 (.guard (lt (sub (v I 1) (c 1)) (ln (v (L I) 3)))
 (.ite (le (ix (v (L I) 3) (v I 1)) (ix (v (L I) 3) (sub (v I 1) (c 1))))
 (.ret [a (k false)])
 (.guard (le (c 0) (v I 1))
 (.guard (lt (v I 1) (ln (v (L (L T4)) 4)))
 (.call ZcF [a (ix (v (L (L T4)) 4) (v I 1)),a (v I 0),a (c 1)] 2502
 (.ite (nt (v B 2502))
 (.ret [a (k false)])
 (.jump 0 [a (v I 0),a (v I 1),a (v (L T4) 2),a (v (L I) 3),a (v (L (L T4)) 4)]))))))))))
 (.guard (le (c 0) (v I 1))
 (.guard (lt (v I 1) (ln (v (L (L T4)) 4)))
 (.call ZcF [a (ix (v (L (L T4)) 4) (v I 1)),a (v I 0),a (c 1)] 2502
 (.ite (nt (v B 2502))
 (.ret [a (k false)])
 (.jump 0 [a (v I 0),a (v I 1),a (v (L T4) 2),a (v (L I) 3),a (v (L (L T4)) 4)]))))))))))
 (.jump 0 [a (v I 0),a (add (v I 1) (c 1)),a (v (L T4) 2),a (v (L I) 3),a (v (L (L T4)) 4)]))
 (.ret [a (k true)]))))))
def Zf4:Tr:=.call Zbt [a (ln (v (L V3) 0)),a (c 1),a (c 5)] 100320
 (.ite (nt (v B 100320))
 (.ret [a (k false)])
 (.ite (gt (ln (v (L TR) 1)) (c 8))
 (.ret [a (k false)])
 (.loop [a (c 1),a (c 0),a (v (L V3) 0),a (v (L TR) 1)]
 (.ite (lt (v I 1) (ln (v (L V3) 2)))
 (.guard (le (c 0) (v I 1))
 (.guard (lt (v I 1) (ln (v (L V3) 2)))
 (.call ZbI [a (f (ix (v (L V3) 2) (v I 1))),a (f (s (ix (v (L V3) 2) (v I 1)))),a (s (s (ix (v (L V3) 2) (v I 1))))] 645
 (.ite (nt (v B 645))
 (.ret [a (k false)])
 (.guard (le (c 0) (v I 1))
 (.guard (lt (v I 1) (ln (v (L V3) 2)))
 (.guard (le (c 0) (v I 1))
 (.guard (lt (v I 1) (ln (v (L V3) 2)))
 (.jump 0 [a (mul (v I 0) (add (sub (f (s (ix (v (L V3) 2) (v I 1)))) (f (ix (v (L V3) 2) (v I 1)))) (c 1))),a (add (v I 1) (c 1)),a (v (L V3) 2),a (v (L TR) 3)])))))))))
 (.loop [a (v I 0),a (c 0),a (v (L V3) 2),a (v (L TR) 3)]
 (.ite (lt (v I 1) (ln (v (L TR) 3)))
 (.guard (le (c 0) (v I 1))
 (.guard (lt (v I 1) (ln (v (L TR) 3)))
 (.call ZcG [a (f (ix (v (L TR) 3) (v I 1))),a (f (s (ix (v (L TR) 3) (v I 1)))),a (s (s (ix (v (L TR) 3) (v I 1)))),a (ln (v (L V3) 2))] 837
 (.ite (nt (v B 837))
 (.ret [a (k false)])
 (.jump 0 [a (v I 0),a (add (v I 1) (c 1)),a (v (L V3) 2),a (v (L TR) 3)])))))
 (.ret [a (le (v I 0) (c 400))])))))))
def Zf5:Tr:=.call ZcH [a (v (L V3) 0),a (v (L TR) 1)] 100192
 (.ite (nt (v B 100192))
 (.ret [a (c 0)])
 (.loop [a (c 1),a (c 0),a (v (L V3) 0),a (v (L TR) 1)]
 (.ite (lt (v I 1) (ln (v (L V3) 2)))
 (.guard (le (c 0) (v I 1))
 (.guard (lt (v I 1) (ln (v (L V3) 2)))
 (.guard (le (c 0) (v I 1))
 (.guard (lt (v I 1) (ln (v (L V3) 2)))
 (.jump 0 [a (mul (v I 0) (add (sub (f (s (ix (v (L V3) 2) (v I 1)))) (f (ix (v (L V3) 2) (v I 1)))) (c 1))),a (add (v I 1) (c 1)),a (v (L V3) 2),a (v (L TR) 3)])))))
 (.ret [a (v I 0)]))))
def Zf6:Tr:=.join
 (.loop [a (c 0),a (v (L V3) 0),a (v (L TR) 1),a (nl I)]
 (.ite (lt (v I 0) (ln (v (L V3) 1)))
 (.call ZcH [a (v (L V3) 1),a (v (L TR) 2)] 454
 (.ite (v B 454)
 (.guard (le (c 0) (v I 0))
 (.guard (lt (v I 0) (ln (v (L V3) 1)))
 (.guard (le (ln (v (L I) 3)) (c 549755813888))
 (.guard (le (ln (one (s (s (ix (v (L V3) 1) (v I 0)))))) (c 549755813888))
 (.jump 0 [a (add (v I 0) (c 1)),a (v (L V3) 1),a (v (L TR) 2),a (app (v (L I) 3) (one (s (s (ix (v (L V3) 1) (v I 0))))))])))))
 (.jump 1 [a (v (L I) 3)])))
 (.jump 1 [a (v (L I) 3)])))
 (.ret [a (v (L I) 0)])
def Zf7:Tr:=.loop [a (v (L I) 0),a (c 0),a (nl I)]
 (.ite (lt (v I 1) (ln (v (L I) 0)))
 (.guard (le (c 0) (v I 1))
 (.guard (lt (v I 1) (ln (v (L I) 0)))
 (.guard (le (ln (v (L I) 2)) (c 549755813888))
 (.guard (le (ln (one (ix (v (L I) 0) (v I 1)))) (c 549755813888))
 (.jump 0 [a (v (L I) 0),a (add (v I 1) (c 1)),a (app (v (L I) 2) (one (ix (v (L I) 0) (v I 1))))])))))
 (.ret [a (v (L I) 2)]))
def Zf8:Tr:=.call ZcJ [a (v (L V3) 0),a (v (L TR) 1)] 100192
 (.call ZcK [a (v (L I) 100192)] 100256
 (.loop [a (v I 2),a (sub (ln (v (L V3) 0)) (c 1)),a (v (L V3) 0),a (v (L TR) 1),a (v (L I) 100256)]
 (.ite (ge (v I 1) (c 0))
 (.guard (le (c 0) (v I 1))
 (.guard (lt (v I 1) (ln (v (L V3) 2)))
 (.guard (le (c 0) (v I 1))
 (.guard (lt (v I 1) (ln (v (L V3) 2)))
 (.guard (le (c 0) (v I 1))
 (.guard (lt (v I 1) (ln (v (L V3) 2)))
 (.guard (ne (add (sub (f (s (ix (v (L V3) 2) (v I 1)))) (f (ix (v (L V3) 2) (v I 1)))) (c 1)) (c 0))
 (.guard (le (c 0) (v I 1))
 (.guard (lt (v I 1) (ln (v (L I) 4)))
 (.guard (ne (add (sub (f (s (ix (v (L V3) 2) (v I 1)))) (f (ix (v (L V3) 2) (v I 1)))) (c 1)) (c 0))
 (.jump 0 [a (quo (v I 0) (add (sub (f (s (ix (v (L V3) 2) (v I 1)))) (f (ix (v (L V3) 2) (v I 1)))) (c 1))),a (sub (v I 1) (c 1)),a (v (L V3) 2),a (v (L TR) 3),a (st (v (L I) 4) (v I 1) (add (f (ix (v (L V3) 2) (v I 1))) (rem (v I 0) (add (sub (f (s (ix (v (L V3) 2) (v I 1)))) (f (ix (v (L V3) 2) (v I 1)))) (c 1)))))])))))))))))
 (.ret [a (v (L I) 4)]))))
def Zf9:Tr:=.ite (gt (v I 0) (c 9999))
 (.ret [a (c 9999)])
 (.ite (lt (v I 0) (c (-9999)))
 (.ret [a (c (-9999))])
 (.ret [a (v I 0)]))
def Zfa:Tr:=.ite (v B 0)
 (.ret [a (c 1)])
 (.ret [a (c 0)])
end Go.Proofs.YtdgpohclhppodaaGreat
namespace Go.Proofs.YtdgpohclhppodaaGreat
open Go Go.Sm Go.Sm.Q
def Zfb:Tr:=.ite (eq (v I 0) (c 2))
 (.call ZcM [a (add (v I 1) (v I 2))] 100384
 (.ret [a (v I 100384)]))
 (.ite (eq (v I 0) (c 3))
 (.call ZcM [a (sub (v I 1) (v I 2))] 100512
 (.ret [a (v I 100512)]))
 (.ite (eq (v I 0) (c 4))
 (.call ZcM [a (mul (v I 1) (v I 2))] 100640
 (.ret [a (v I 100640)]))
 (.ite (eq (v I 0) (c 5))
 (.call ZcN [a (lt (v I 1) (v I 2))] 100768
 (.ret [a (v I 100768)]))
 (.ite (eq (v I 0) (c 6))
 (.call ZcN [a (eq (v I 1) (v I 2))] 100896
 (.ret [a (v I 100896)]))
 (.ite (eq (v I 0) (c 7))
 (.ret [a (sub (c 1) (v I 1))])
 (.ite (eq (v I 0) (c 8))
 (.ret [a (mul (v I 1) (v I 2))])
 (.call ZcN [a (gt (add (v I 1) (v I 2)) (c 0))] 101216
 (.ret [a (v I 101216)]))))))))
def Zfc:Tr:=.loop [a (v (L T4) 0),a (v (L I) 1),a (c 0),a (nl I)]
 (.ite (lt (v I 2) (ln (v (L T4) 0)))
 (.join
 (.guard (le (c 0) (v I 2))
 (.guard (lt (v I 2) (ln (v (L T4) 0)))
 (.ite (eq (f (ix (v (L T4) 0) (v I 2))) (c 0))
 (.guard (le (ln (v (L I) 3)) (c 549755813888))
 (.guard (le (ln (one (f (s (ix (v (L T4) 0) (v I 2)))))) (c 549755813888))
 (.jump 0 [a (v (L T4) 0),a (v (L I) 1),a (v I 2),a (app (v (L I) 3) (one (f (s (ix (v (L T4) 0) (v I 2))))))])))
 (.ite (eq (f (ix (v (L T4) 0) (v I 2))) (c 1))
 (.guard (le (c 0) (f (s (ix (v (L T4) 0) (v I 2)))))
 (.guard (lt (f (s (ix (v (L T4) 0) (v I 2)))) (ln (v (L I) 1)))
 (.guard (le (ln (v (L I) 3)) (c 549755813888))
 (.guard (le (ln (one (ix (v (L I) 1) (f (s (ix (v (L T4) 0) (v I 2))))))) (c 549755813888))
 (.jump 0 [a (v (L T4) 0),a (v (L I) 1),a (v I 2),a (app (v (L I) 3) (one (ix (v (L I) 1) (f (s (ix (v (L T4) 0) (v I 2)))))))])))))
 (.guard (le (c 0) (f (s (s (ix (v (L T4) 0) (v I 2))))))
 (.guard (lt (f (s (s (ix (v (L T4) 0) (v I 2))))) (ln (v (L I) 3)))
 (.guard (le (c 0) (s (s (s (ix (v (L T4) 0) (v I 2))))))
 (.guard (lt (s (s (s (ix (v (L T4) 0) (v I 2))))) (ln (v (L I) 3)))
 (.call ZcO [a (f (ix (v (L T4) 0) (v I 2))),a (ix (v (L I) 3) (f (s (s (ix (v (L T4) 0) (v I 2)))))),a (ix (v (L I) 3) (s (s (s (ix (v (L T4) 0) (v I 2))))))] 1861
 (.guard (le (ln (v (L I) 3)) (c 549755813888))
 (.guard (le (ln (one (v I 1861))) (c 549755813888))
 (.jump 0 [a (v (L T4) 0),a (v (L I) 1),a (v I 2),a (app (v (L I) 3) (one (v I 1861)))]))))))))))))
 (.jump 0 [a (v (L T4) 0),a (v (L I) 1),a (add (v I 2) (c 1)),a (v (L I) 3)]))
 (.ret [a (v (L I) 3)]))
def Zfd:Tr:=.call ZcP [a (v (L T4) 0),a (v (L I) 1)] 100192
 (.guard (le (c 0) (sub (ln (v (L T4) 0)) (c 1)))
 (.guard (lt (sub (ln (v (L T4) 0)) (c 1)) (ln (v (L I) 100192)))
 (.ret [a (ix (v (L I) 100192) (sub (ln (v (L T4) 0)) (c 1)))])))
def Zfe:Tr:=.call ZcH [a (v (L V3) 0),a (v (L TR) 1)] 100320
 (.ite (nt (v B 100320))
 (.ret [a (nl I)])
 (.call ZcF [a (v (L T4) 2),a (ln (v (L V3) 0)),a (c 2)] 100768
 (.ite (nt (v B 100768))
 (.ret [a (nl I)])
 (.loop [a (v (L T4) 2),a (c 0),a (v (L V3) 0),a (v (L TR) 1),a (nl I)]
 (.call ZcI [a (v (L V3) 2),a (v (L TR) 3)] 135
 (.ite (lt (v I 1) (v I 135))
 (.join
 (.call ZcL [a (v (L V3) 2),a (v (L TR) 3),a (v I 1)] 455
 (.call ZcQ [a (v (L T4) 0),a (v (L I) 455)] 519
 (.ite (eq (v I 519) (c 1))
 (.guard (le (ln (v (L I) 4)) (c 549755813888))
 (.guard (le (ln (one (v I 1))) (c 549755813888))
 (.jump 0 [a (v (L T4) 0),a (v I 1),a (v (L V3) 2),a (v (L TR) 3),a (app (v (L I) 4) (one (v I 1)))])))
 (.jump 0 [a (v (L T4) 0),a (v I 1),a (v (L V3) 2),a (v (L TR) 3),a (v (L I) 4)]))))
 (.jump 0 [a (v (L T4) 0),a (add (v I 1) (c 1)),a (v (L V3) 2),a (v (L TR) 3),a (v (L I) 4)]))
 (.ret [a (v (L I) 4)])))))))
def Zff:Tr:=.guard (le (c 0) (v I 1))
 (.guard (le (v I 1) (c 549755813888))
 (.loop [a (v (L I) 0),a (c 0),a (rep (v I 1) (z B))]
 (.ite (lt (v I 1) (ln (v (L I) 0)))
 (.guard (le (c 0) (v I 1))
 (.guard (lt (v I 1) (ln (v (L I) 0)))
 (.guard (le (c 0) (ix (v (L I) 0) (v I 1)))
 (.guard (lt (ix (v (L I) 0) (v I 1)) (ln (v (L B) 2)))
 (.jump 0 [a (v (L I) 0),a (add (v I 1) (c 1)),a (st (v (L B) 2) (ix (v (L I) 0) (v I 1)) (k true))])))))
 (.ret [a (v (L B) 2)]))))
def Zfg:Tr:=.call ZcR [a (v (L V3) 0),a (v (L TR) 1),a (v (L T4) 2)] 100320
 (.call ZcI [a (v (L V3) 0),a (v (L TR) 1)] 100384
 (.call ZcS [a (v (L I) 100320),a (v I 100384)] 100448
 (.ret [a (v (L B) 100448)])))
def Zfh:Tr:=.loop [a (v (L I) 2),a (c 0),a (c 0),a (v (L V3) 0),a (v (L TR) 1)]
 (.ite (lt (v I 2) (ln (v (L I) 0)))
 (.guard (le (c 0) (v I 2))
 (.guard (lt (v I 2) (ln (v (L V3) 3)))
 (.guard (le (c 0) (v I 2))
 (.guard (lt (v I 2) (ln (v (L V3) 3)))
 (.guard (le (c 0) (v I 2))
 (.guard (lt (v I 2) (ln (v (L I) 0)))
 (.guard (le (c 0) (v I 2))
 (.guard (lt (v I 2) (ln (v (L V3) 3)))
 (.jump 0 [a (v (L I) 0),a (sub (add (mul (v I 1) (add (sub (f (s (ix (v (L V3) 3) (v I 2)))) (f (ix (v (L V3) 3) (v I 2)))) (c 1))) (ix (v (L I) 0) (v I 2))) (f (ix (v (L V3) 3) (v I 2)))),a (add (v I 2) (c 1)),a (v (L V3) 3),a (v (L TR) 4)])))))))))
 (.ret [a (v I 1)]))
def Zfi:Tr:=.ite (ne (ln (v (L I) 2)) (ln (v (L V3) 0)))
 (.ret [a (k false)])
 (.loop [a (v (L I) 2),a (c 0),a (v (L V3) 0),a (v (L TR) 1)]
 (.ite (lt (v I 1) (ln (v (L I) 0)))
 (.guard (le (c 0) (v I 1))
 (.guard (lt (v I 1) (ln (v (L I) 0)))
 (.guard (le (c 0) (v I 1))
 (.guard (lt (v I 1) (ln (v (L V3) 2)))
 (.guard (le (c 0) (v I 1))
 (.guard (lt (v I 1) (ln (v (L V3) 2)))
 (.call Zbt [a (ix (v (L I) 0) (v I 1)),a (f (ix (v (L V3) 2) (v I 1))),a (f (s (ix (v (L V3) 2) (v I 1))))] 1285
 (.ite (nt (v B 1285))
 (.ret [a (k false)])
 (.jump 0 [a (v (L I) 0),a (add (v I 1) (c 1)),a (v (L V3) 2),a (v (L TR) 3)])))))))))
 (.ret [a (k true)])))
def Zfj:Tr:=.guard (le (c 0) (v I 3))
 (.guard (lt (v I 3) (ln (v (L TR) 1)))
 (.call ZcQ [a (f (ix (v (L TR) 1) (v I 3))),a (v (L I) 2)] 100768
 (.ite (eq (v I 100768) (c 0))
 (.ret [a (nl I)])
 (.loop [a (v (L I) 2),a (c 0),a (v (L V3) 0),a (v (L TR) 1),a (f (ix (v (L TR) 1) (v I 3))),a (f (s (ix (v (L TR) 1) (v I 3)))),a (s (s (ix (v (L TR) 1) (v I 3)))),a (nl I)]
 (.ite (lt (v I 1) (ln (v (L I) 0)))
 (.guard (le (c 0) (v I 1))
 (.guard (lt (v I 1) (ln (v (L I) 0)))
 (.guard (le (ln (v (L I) 7)) (c 549755813888))
 (.guard (le (ln (one (ix (v (L I) 0) (v I 1)))) (c 549755813888))
 (.jump 0 [a (v (L I) 0),a (add (v I 1) (c 1)),a (v (L V3) 2),a (v (L TR) 3),a (v (L T4) 4),a (v (L I) 5),a (v (L (L T4)) 6),a (app (v (L I) 7) (one (ix (v (L I) 0) (v I 1))))])))))
 (.loop [a (v (L I) 0),a (c 0),a (v (L V3) 2),a (v (L TR) 3),a (v (L T4) 4),a (v (L I) 5),a (v (L (L T4)) 6),a (v (L I) 7)]
 (.ite (lt (v I 1) (ln (v (L I) 5)))
 (.guard (le (c 0) (v I 1))
 (.guard (lt (v I 1) (ln (v (L I) 5)))
 (.guard (le (c 0) (v I 1))
 (.guard (lt (v I 1) (ln (v (L (L T4)) 6)))
 (.call ZcQ [a (ix (v (L (L T4)) 6) (v I 1)),a (v (L I) 0)] 1099
 (.guard (le (c 0) (ix (v (L I) 5) (v I 1)))
 (.guard (lt (ix (v (L I) 5) (v I 1)) (ln (v (L I) 7)))
 (.jump 0 [a (v (L I) 0),a (add (v I 1) (c 1)),a (v (L V3) 2),a (v (L TR) 3),a (v (L T4) 4),a (v (L I) 5),a (v (L (L T4)) 6),a (st (v (L I) 7) (ix (v (L I) 5) (v I 1)) (v I 1099))]))))))))
 (.call ZcV [a (v (L V3) 2),a (v (L TR) 3),a (v (L I) 7)] 459
 (.ite (nt (v B 459))
 (.ret [a (nl I)])
 (.ret [a (v (L I) 7)]))))))))))
def Zfk:Tr:=.ite (ne (ln (v (L I) 0)) (ln (v (L I) 1)))
 (.ret [a (k false)])
 (.loop [a (v (L I) 0),a (v (L I) 1),a (c 0)]
 (.ite (lt (v I 2) (ln (v (L I) 0)))
 (.guard (le (c 0) (v I 2))
 (.guard (lt (v I 2) (ln (v (L I) 0)))
 (.guard (le (c 0) (v I 2))
 (.guard (lt (v I 2) (ln (v (L I) 1)))
 (.ite (ne (ix (v (L I) 0) (v I 2)) (ix (v (L I) 1) (v I 2)))
 (.ret [a (k false)])
 (.jump 0 [a (v (L I) 0),a (v (L I) 1),a (add (v I 2) (c 1))]))))))
 (.ret [a (k true)])))
def Zfl:Tr:=.join
 (.loop [a (v (L I) 0),a (v (L I) 1),a (c 0)]
 (.ite (lt (v I 2) (ln (v (L I) 0)))
 (.ite (lt (v I 2) (ln (v (L I) 1)))
 (.guard (le (c 0) (v I 2))
 (.guard (lt (v I 2) (ln (v (L I) 0)))
 (.guard (le (c 0) (v I 2))
 (.guard (lt (v I 2) (ln (v (L I) 1)))
 (.ite (ne (ix (v (L I) 0) (v I 2)) (ix (v (L I) 1) (v I 2)))
 (.guard (le (c 0) (v I 2))
 (.guard (lt (v I 2) (ln (v (L I) 0)))
 (.guard (le (c 0) (v I 2))
 (.guard (lt (v I 2) (ln (v (L I) 1)))
 (.ret [a (lt (ix (v (L I) 0) (v I 2)) (ix (v (L I) 1) (v I 2)))])))))
 (.jump 0 [a (v (L I) 0),a (v (L I) 1),a (add (v I 2) (c 1))]))))))
 (.jump 1 [a (v (L I) 0),a (v (L I) 1)]))
 (.jump 1 [a (v (L I) 0),a (v (L I) 1)])))
 (.ret [a (lt (ln (v (L I) 0)) (ln (v (L I) 1)))])
def Zfm:Tr:=.loop [a (v (L (L I)) 0),a (v (L I) 1),a (k false),a (c 0),a (nl (L I))]
 (.ite (lt (v I 3) (ln (v (L (L I)) 0)))
 (.join
 (.ite (nt (v B 2))
 (.guard (le (c 0) (v I 3))
 (.guard (lt (v I 3) (ln (v (L (L I)) 0)))
 (.call ZcX [a (ix (v (L (L I)) 0) (v I 3)),a (v (L I) 1)] 774
 (.ite (v B 774)
 (.jump 0 [a (v (L (L I)) 0),a (v (L I) 1),a (k true),a (v I 3),a (v (L (L I)) 4)])
 (.jump 0 [a (v (L (L I)) 0),a (v (L I) 1),a (v B 2),a (v I 3),a (v (L (L I)) 4)])))))
 (.jump 0 [a (v (L (L I)) 0),a (v (L I) 1),a (v B 2),a (v I 3),a (v (L (L I)) 4)]))
 (.join
 (.ite (nt (v B 2))
 (.guard (le (c 0) (v I 3))
 (.guard (lt (v I 3) (ln (v (L (L I)) 0)))
 (.call ZcY [a (v (L I) 1),a (ix (v (L (L I)) 0) (v I 3))] 518
 (.ite (v B 518)
 (.guard (le (ln (v (L (L I)) 4)) (c 549755813888))
 (.guard (le (ln (one (v (L I) 1))) (c 549755813888))
 (.jump 0 [a (v (L (L I)) 0),a (v (L I) 1),a (k true),a (v I 3),a (app (v (L (L I)) 4) (one (v (L I) 1)))])))
 (.jump 0 [a (v (L (L I)) 0),a (v (L I) 1),a (v B 2),a (v I 3),a (v (L (L I)) 4)])))))
 (.jump 0 [a (v (L (L I)) 0),a (v (L I) 1),a (v B 2),a (v I 3),a (v (L (L I)) 4)]))
 (.guard (le (c 0) (v I 3))
 (.guard (lt (v I 3) (ln (v (L (L I)) 0)))
 (.guard (le (ln (v (L (L I)) 4)) (c 549755813888))
 (.guard (le (ln (one (ix (v (L (L I)) 0) (v I 3)))) (c 549755813888))
 (.jump 0 [a (v (L (L I)) 0),a (v (L I) 1),a (v B 2),a (add (v I 3) (c 1)),a (app (v (L (L I)) 4) (one (ix (v (L (L I)) 0) (v I 3))))])))))))
 (.join
 (.ite (nt (v B 2))
 (.guard (le (ln (v (L (L I)) 4)) (c 549755813888))
 (.guard (le (ln (one (v (L I) 1))) (c 549755813888))
 (.jump 0 [a (app (v (L (L I)) 4) (one (v (L I) 1)))])))
 (.jump 0 [a (v (L (L I)) 4)]))
 (.ret [a (v (L (L I)) 0)])))
def Zfn:Tr:=.loop [a (v (L I) 2),a (c 0),a (v (L V3) 0),a (v (L TR) 1),a (nl (L I))]
 (.ite (lt (v I 1) (ln (v (L TR) 3)))
 (.join
 (.call ZcW [a (v (L V3) 2),a (v (L TR) 3),a (v (L I) 0),a (v I 1)] 519
 (.ite (gt (ln (v (L I) 519)) (c 0))
 (.call ZcZ [a (v (L (L I)) 4),a (v (L I) 519)] 967
 (.jump 0 [a (v (L I) 0),a (v I 1),a (v (L V3) 2),a (v (L TR) 3),a (v (L (L I)) 967)]))
 (.jump 0 [a (v (L I) 0),a (v I 1),a (v (L V3) 2),a (v (L TR) 3),a (v (L (L I)) 4)])))
 (.jump 0 [a (v (L I) 0),a (add (v I 1) (c 1)),a (v (L V3) 2),a (v (L TR) 3),a (v (L (L I)) 4)]))
 (.ret [a (v (L (L I)) 4)]))
def Zfo:Tr:=.loop [a (c 0),a (v (L V3) 0),a (v (L TR) 1),a (nl (L I))]
 (.call ZcI [a (v (L V3) 1),a (v (L TR) 2)] 134
 (.ite (lt (v I 0) (v I 134))
 (.call ZcL [a (v (L V3) 1),a (v (L TR) 2),a (v I 0)] 454
 (.call Zc_ [a (v (L V3) 1),a (v (L TR) 2),a (v (L I) 454)] 518
 (.loop [a (v I 0),a (c 0),a (v (L V3) 1),a (v (L TR) 2),a (v (L (L I)) 3),a (v (L (L I)) 518),a (nl I)]
 (.ite (lt (v I 1) (ln (v (L (L I)) 5)))
 (.guard (le (c 0) (v I 1))
 (.guard (lt (v I 1) (ln (v (L (L I)) 5)))
 (.call ZcU [a (v (L V3) 2),a (v (L TR) 3),a (ix (v (L (L I)) 5) (v I 1))] 651
 (.guard (le (ln (v (L I) 6)) (c 549755813888))
 (.guard (le (ln (one (v I 651))) (c 549755813888))
 (.jump 0 [a (v I 0),a (add (v I 1) (c 1)),a (v (L V3) 2),a (v (L TR) 3),a (v (L (L I)) 4),a (v (L (L I)) 5),a (app (v (L I) 6) (one (v I 651)))]))))))
 (.guard (le (ln (v (L (L I)) 4)) (c 549755813888))
 (.guard (le (ln (one (v (L I) 6))) (c 549755813888))
 (.jump 1 [a (add (v I 0) (c 1)),a (v (L V3) 2),a (v (L TR) 3),a (app (v (L (L I)) 4) (one (v (L I) 6)))])))))))
 (.ret [a (v (L (L I)) 3)])))
def Zfp:Tr:=.loop [a (v (L I) 2),a (v (L I) 3),a (c 0),a (v (L V3) 0),a (v (L TR) 1)]
 (.ite (lt (v I 2) (ln (v (L TR) 4)))
 (.join
 (.call ZcW [a (v (L V3) 3),a (v (L TR) 4),a (v (L I) 0),a (v I 2)] 518
 (.ite (gt (ln (v (L I) 518)) (c 0))
 (.call ZcX [a (v (L I) 518),a (v (L I) 1)] 1030
 (.ite (v B 1030)
 (.ret [a (v I 2)])
 (.jump 0 [a (v (L I) 0),a (v (L I) 1),a (v I 2),a (v (L V3) 3),a (v (L TR) 4)])))
 (.jump 0 [a (v (L I) 0),a (v (L I) 1),a (v I 2),a (v (L V3) 3),a (v (L TR) 4)])))
 (.jump 0 [a (v (L I) 0),a (v (L I) 1),a (add (v I 2) (c 1)),a (v (L V3) 3),a (v (L TR) 4)]))
 (.ret [a (c (-1))]))
def Zfq:Tr:=.call ZcH [a (v (L V3) 0),a (v (L TR) 1)] 100256
 (.ite (nt (v B 100256))
 (.ret [a (nl (L I)),a (nl I),a (k false)])
 (.call Zbt [a (ln (v (L (L I)) 2)),a (c 1),a (c 500)] 100576
 (.ite (nt (v B 100576))
 (.ret [a (nl (L I)),a (nl I),a (k false)])
 (.guard (lt (c 0) (ln (v (L (L I)) 2)))
 (.call ZcJ [a (v (L V3) 0),a (v (L TR) 1)] 101088
 (.call ZcX [a (ix (v (L (L I)) 2) (c 0)),a (v (L I) 101088)] 101152
 (.ite (nt (v B 101152))
 (.ret [a (nl (L I)),a (nl I),a (k false)])
 (.guard (lt (c 0) (ln (v (L (L I)) 2)))
 (.call ZcK [a (ix (v (L (L I)) 2) (c 0))] 101536
 (.loop [a (v (L (L I)) 2),a (c 1),a (v (L V3) 0),a (v (L TR) 1),a (one (v (L I) 101536)),a (nl I)]
 (.ite (lt (v I 1) (ln (v (L (L I)) 0)))
 (.guard (le (c 0) (v I 1))
 (.guard (lt (v I 1) (ln (v (L (L I)) 0)))
 (.call ZcV [a (v (L V3) 2),a (v (L TR) 3),a (ix (v (L (L I)) 0) (v I 1))] 587
 (.ite (nt (v B 587))
 (.ret [a (nl (L I)),a (nl I),a (k false)])
 (.guard (le (c 0) (sub (v I 1) (c 1)))
 (.guard (lt (sub (v I 1) (c 1)) (ln (v (L (L I)) 0)))
 (.guard (le (c 0) (v I 1))
 (.guard (lt (v I 1) (ln (v (L (L I)) 0)))
 (.call Zd1 [a (v (L V3) 2),a (v (L TR) 3),a (ix (v (L (L I)) 0) (sub (v I 1) (c 1))),a (ix (v (L (L I)) 0) (v I 1))] 1355
 (.ite (lt (v I 1355) (c 0))
 (.ret [a (nl (L I)),a (nl I),a (k false)])
 (.guard (le (c 0) (v I 1))
 (.guard (lt (v I 1) (ln (v (L (L I)) 0)))
 (.call ZcK [a (ix (v (L (L I)) 0) (v I 1))] 1995
 (.guard (le (ln (v (L (L I)) 4)) (c 549755813888))
 (.guard (le (ln (one (v (L I) 1995))) (c 549755813888))
 (.guard (le (ln (v (L I) 5)) (c 549755813888))
 (.guard (le (ln (one (v I 1355))) (c 549755813888))
 (.jump 0 [a (v (L (L I)) 0),a (add (v I 1) (c 1)),a (v (L V3) 2),a (v (L TR) 3),a (app (v (L (L I)) 4) (one (v (L I) 1995))),a (app (v (L I) 5) (one (v I 1355)))]))))))))))))))))))
 (.ret [a (v (L (L I)) 4),a (v (L I) 5),a (k true)]))))))))))))
def Zfr:Tr:=.loop [a (v (L I) 2),a (c 0),a (v (L V3) 0),a (v (L TR) 1),a (nl (L I))]
 (.ite (lt (v I 1) (ln (v (L I) 0)))
 (.guard (le (c 0) (v I 1))
 (.guard (lt (v I 1) (ln (v (L I) 0)))
 (.call ZcL [a (v (L V3) 2),a (v (L TR) 3),a (ix (v (L I) 0) (v I 1))] 648
 (.guard (le (ln (v (L (L I)) 4)) (c 549755813888))
 (.guard (le (ln (one (v (L I) 648))) (c 549755813888))
 (.jump 0 [a (v (L I) 0),a (add (v I 1) (c 1)),a (v (L V3) 2),a (v (L TR) 3),a (app (v (L (L I)) 4) (one (v (L I) 648)))]))))))
 (.call Zd2 [a (v (L V3) 2),a (v (L TR) 3),a (v (L (L I)) 4)] 392
 (.ret [a (v (L (L I)) 392),a (v (L I) 393)])))
def Zfs:Tr:=.loop [a (v I 0),a (v I 1),a (c 0),a (nl I)]
 (.ite (lt (v I 2) (v I 1))
 (.guard (le (ln (v (L I) 3)) (c 549755813888))
 (.guard (le (ln (one (add (v I 0) (v I 2)))) (c 549755813888))
 (.jump 0 [a (v I 0),a (v I 1),a (add (v I 2) (c 1)),a (app (v (L I) 3) (one (add (v I 0) (v I 2))))])))
 (.ret [a (v (L I) 3)]))
def Zft:Tr:=.guard (le (c 0) (sub (ln (v (L (L I)) 1)) (c 1)))
 (.guard (lt (sub (ln (v (L (L I)) 1)) (c 1)) (ln (v (L (L I)) 1)))
 (.loop [a (v (L B) 5),a (ix (v (L (L I)) 1) (sub (ln (v (L (L I)) 1)) (c 1))),a (c 0)]
 (.ite (lt (v I 2) (ln (v (L I) 1)))
 (.guard (le (c 0) (v I 2))
 (.guard (lt (v I 2) (ln (v (L I) 1)))
 (.guard (le (c 0) (ix (v (L I) 1) (v I 2)))
 (.guard (lt (ix (v (L I) 1) (v I 2)) (ln (v (L B) 0)))
 (.ite (nt (ix (v (L B) 0) (ix (v (L I) 1) (v I 2))))
 (.guard (le (c 0) (v I 2))
 (.guard (lt (v I 2) (ln (v (L I) 1)))
 (.ret [a (ix (v (L I) 1) (v I 2))])))
 (.jump 0 [a (v (L B) 0),a (v (L I) 1),a (add (v I 2) (c 1))]))))))
 (.ret [a (c (-1))]))))
def Zfu:Tr:=.loop [a (v (L I) 0),a (v I 1),a (c 0)]
 (.ite (lt (v I 2) (ln (v (L I) 0)))
 (.guard (le (c 0) (v I 2))
 (.guard (lt (v I 2) (ln (v (L I) 0)))
 (.ite (eq (ix (v (L I) 0) (v I 2)) (v I 1))
 (.ret [a (k true)])
 (.jump 0 [a (v (L I) 0),a (v I 1),a (add (v I 2) (c 1))]))))
 (.ret [a (k false)]))
def Zfv:Tr:=.loop [a (v (L I) 5),a (v I 6),a (c 0),a (v (L (L I)) 0),a (v (L (L I)) 1),a (v (L (L I)) 2),a (v (L I) 3),a (v (L I) 4)]
 (.ite (lt (v I 2) (ln (v (L I) 0)))
 (.guard (le (c 0) (v I 2))
 (.guard (lt (v I 2) (ln (v (L I) 0)))
 (.guard (le (c 0) (ix (v (L I) 0) (v I 2)))
 (.guard (lt (ix (v (L I) 0) (v I 2)) (ln (v (L (L I)) 3)))
 (.call Zd6 [a (ix (v (L (L I)) 3) (ix (v (L I) 0) (v I 2))),a (v I 1)] 841
 (.ite (v B 841)
 (.guard (le (c 0) (v I 2))
 (.guard (lt (v I 2) (ln (v (L I) 0)))
 (.ret [a (ix (v (L I) 0) (v I 2))])))
 (.jump 0 [a (v (L I) 0),a (v I 1),a (add (v I 2) (c 1)),a (v (L (L I)) 3),a (v (L (L I)) 4),a (v (L (L I)) 5),a (v (L I) 6),a (v (L I) 7)])))))))
 (.ret [a (c (-1))]))
def Zfw:Tr:=.loop [a (v I 0),a (c 0),a (c 1)]
 (.ite (lt (v I 2) (v I 0))
 (.jump 0 [a (v I 0),a (add (v I 1) (c 1)),a (mul (v I 2) (c 2))])
 (.ret [a (v I 1)]))
def Zfx:Tr:=.loop [a (c 0),a (v (L V3) 0),a (v (L TR) 1),a (nl I)]
 (.ite (lt (v I 0) (ln (v (L V3) 1)))
 (.guard (le (c 0) (v I 0))
 (.guard (lt (v I 0) (ln (v (L V3) 1)))
 (.guard (le (c 0) (v I 0))
 (.guard (lt (v I 0) (ln (v (L V3) 1)))
 (.call Zd8 [a (add (sub (f (s (ix (v (L V3) 1) (v I 0)))) (f (ix (v (L V3) 1) (v I 0)))) (c 1))] 1286
 (.guard (le (ln (v (L I) 3)) (c 549755813888))
 (.guard (le (ln (one (v I 1286))) (c 549755813888))
 (.jump 0 [a (add (v I 0) (c 1)),a (v (L V3) 1),a (v (L TR) 2),a (app (v (L I) 3) (one (v I 1286)))]))))))))
 (.ret [a (v (L I) 3)]))
def Zfy:Tr:=.loop [a (v I 0),a (sub (v I 1) (c 1)),a (nl I)]
 (.ite (ge (v I 1) (c 0))
 (.guard (le (c 0) (v I 1))
 (.guard (le (ln (v (L I) 2)) (c 549755813888))
 (.guard (le (ln (one (rem (.o2 (.sh false .i64 .i64) (v I 0) (v I 1)) (c 2)))) (c 549755813888))
 (.jump 0 [a (v I 0),a (sub (v I 1) (c 1)),a (app (v (L I) 2) (one (rem (.o2 (.sh false .i64 .i64) (v I 0) (v I 1)) (c 2))))]))))
 (.ret [a (v (L I) 2)]))
def Zfz:Tr:=.call Zd9 [a (v (L V3) 0),a (v (L TR) 1)] 100320
 (.loop [a (v (L I) 2),a (c 0),a (v (L V3) 0),a (v (L TR) 1),a (nl I),a (v (L I) 100320)]
 (.ite (lt (v I 1) (ln (v (L I) 0)))
 (.guard (le (c 0) (v I 1))
 (.guard (lt (v I 1) (ln (v (L I) 0)))
 (.guard (le (c 0) (v I 1))
 (.guard (lt (v I 1) (ln (v (L V3) 2)))
 (.guard (le (c 0) (v I 1))
 (.guard (lt (v I 1) (ln (v (L I) 5)))
 (.call Zda [a (sub (ix (v (L I) 0) (v I 1)) (f (ix (v (L V3) 2) (v I 1)))),a (ix (v (L I) 5) (v I 1))] 1225
 (.loop [a (v (L I) 0),a (v I 1),a (c 0),a (v (L V3) 2),a (v (L TR) 3),a (v (L I) 4),a (v (L I) 5),a (v (L I) 1225)]
 (.ite (lt (v I 2) (ln (v (L I) 7)))
 (.guard (le (c 0) (v I 2))
 (.guard (lt (v I 2) (ln (v (L I) 7)))
 (.guard (le (ln (v (L I) 5)) (c 549755813888))
 (.guard (le (ln (one (ix (v (L I) 7) (v I 2)))) (c 549755813888))
 (.jump 0 [a (v (L I) 0),a (v I 1),a (add (v I 2) (c 1)),a (v (L V3) 3),a (v (L TR) 4),a (app (v (L I) 5) (one (ix (v (L I) 7) (v I 2)))),a (v (L I) 6),a (v (L I) 7)])))))
 (.jump 1 [a (v (L I) 0),a (add (v I 1) (c 1)),a (v (L V3) 3),a (v (L TR) 4),a (v (L I) 5),a (v (L I) 6)]))))))))))
 (.ret [a (v (L I) 4)])))
def ZfA:Tr:=.loop [a (v (L I) 0),a (v (L I) 1),a (c 0)]
 (.ite (lt (v I 2) (ln (v (L I) 0)))
 (.join
 (.guard (le (c 0) (v I 2))
 (.guard (lt (v I 2) (ln (v (L I) 0)))
 (.ite (ne (ix (v (L I) 0) (v I 2)) (c 2))
 (.guard (le (c 0) (v I 2))
 (.guard (lt (v I 2) (ln (v (L I) 0)))
 (.guard (le (c 0) (v I 2))
 (.guard (lt (v I 2) (ln (v (L I) 1)))
 (.ite (ne (ix (v (L I) 0) (v I 2)) (ix (v (L I) 1) (v I 2)))
 (.ret [a (k false)])
 (.jump 0 [a (v (L I) 0),a (v (L I) 1),a (v I 2)]))))))
 (.jump 0 [a (v (L I) 0),a (v (L I) 1),a (v I 2)]))))
 (.jump 0 [a (v (L I) 0),a (v (L I) 1),a (add (v I 2) (c 1))]))
 (.ret [a (k true)]))
def ZfB:Tr:=.loop [a (v (L I) 2),a (c 0),a (v (L V3) 0),a (v (L TR) 1),a (nl I)]
 (.call ZcI [a (v (L V3) 2),a (v (L TR) 3)] 135
 (.ite (lt (v I 1) (v I 135))
 (.join
 (.call ZcL [a (v (L V3) 2),a (v (L TR) 3),a (v I 1)] 519
 (.call Zdb [a (v (L V3) 2),a (v (L TR) 3),a (v (L I) 519)] 583
 (.call Zdc [a (v (L I) 0),a (v (L I) 583)] 647
 (.ite (v B 647)
 (.guard (le (ln (v (L I) 4)) (c 549755813888))
 (.guard (le (ln (one (v I 1))) (c 549755813888))
 (.jump 0 [a (v (L I) 0),a (v I 1),a (v (L V3) 2),a (v (L TR) 3),a (app (v (L I) 4) (one (v I 1)))])))
 (.jump 0 [a (v (L I) 0),a (v I 1),a (v (L V3) 2),a (v (L TR) 3),a (v (L I) 4)])))))
 (.jump 0 [a (v (L I) 0),a (add (v I 1) (c 1)),a (v (L V3) 2),a (v (L TR) 3),a (v (L I) 4)]))
 (.ret [a (v (L I) 4)])))
def ZfC:Tr:=.loop [a (v (L I) 0),a (c 0)]
 (.ite (lt (v I 1) (ln (v (L I) 0)))
 (.join
 (.guard (le (c 0) (v I 1))
 (.guard (lt (v I 1) (ln (v (L I) 0)))
 (.call Zbt [a (ix (v (L I) 0) (v I 1)),a (c 0),a (c 399)] 514
 (.ite (nt (v B 514))
 (.ret [a (k false)])
 (.ite (gt (v I 1) (c 0))
 (.guard (le (c 0) (v I 1))
 (.guard (lt (v I 1) (ln (v (L I) 0)))
 (.guard (le (c 0) (sub (v I 1) (c 1)))
 (.guard (lt (sub (v I 1) (c 1)) (ln (v (L I) 0)))
 (.ite (le (ix (v (L I) 0) (v I 1)) (ix (v (L I) 0) (sub (v I 1) (c 1))))
 (.ret [a (k false)])
 (.jump 0 [a (v (L I) 0),a (v I 1)]))))))
 (.jump 0 [a (v (L I) 0),a (v I 1)]))))))
 (.jump 0 [a (v (L I) 0),a (add (v I 1) (c 1))]))
 (.ret [a (k true)]))
def ZfD:Tr:=.call Zde [a (v (L I) 0)] 100256
 (.ite (nt (v B 100256))
 (.ret [a (nl I)])
 (.call Zde [a (v (L I) 1)] 100512
 (.ite (nt (v B 100512))
 (.ret [a (nl I)])
 (.call ZcS [a (v (L I) 0),a (c 400)] 100768
 (.call ZcS [a (v (L I) 1),a (c 400)] 100960
 (.loop [a (v I 2),a (c 0),a (nl I),a (v (L B) 100768),a (v (L B) 100960)]
 (.ite (lt (v I 1) (c 400))
 (.join
 (.ite (eq (v I 0) (c 0))
 (.guard (le (c 0) (v I 1))
 (.guard (lt (v I 1) (ln (v (L B) 3)))
 (.ite (ix (v (L B) 3) (v I 1))
 (.guard (le (c 0) (v I 1))
 (.guard (lt (v I 1) (ln (v (L B) 4)))
 (.ite (ix (v (L B) 4) (v I 1))
 (.guard (le (ln (v (L I) 2)) (c 549755813888))
 (.guard (le (ln (one (v I 1))) (c 549755813888))
 (.jump 0 [a (v I 0),a (v I 1),a (app (v (L I) 2) (one (v I 1))),a (v (L B) 3),a (v (L B) 4)])))
 (.ite (eq (v I 0) (c 1))
 (.guard (le (c 0) (v I 1))
 (.guard (lt (v I 1) (ln (v (L B) 3)))
 (.ite (ix (v (L B) 3) (v I 1))
 (.guard (le (ln (v (L I) 2)) (c 549755813888))
 (.guard (le (ln (one (v I 1))) (c 549755813888))
 (.jump 0 [a (v I 0),a (v I 1),a (app (v (L I) 2) (one (v I 1))),a (v (L B) 3),a (v (L B) 4)])))
 (.guard (le (c 0) (v I 1))
 (.guard (lt (v I 1) (ln (v (L B) 4)))
 (.ite (ix (v (L B) 4) (v I 1))
 (.guard (le (ln (v (L I) 2)) (c 549755813888))
 (.guard (le (ln (one (v I 1))) (c 549755813888))
 (.jump 0 [a (v I 0),a (v I 1),a (app (v (L I) 2) (one (v I 1))),a (v (L B) 3),a (v (L B) 4)])))
 (.ite (eq (v I 0) (c 2))
 (.guard (le (c 0) (v I 1))
 (.guard (lt (v I 1) (ln (v (L B) 3)))
 (.ite (ix (v (L B) 3) (v I 1))
 (.guard (le (c 0) (v I 1))
 (.guard (lt (v I 1) (ln (v (L B) 4)))
 (.ite (nt (ix (v (L B) 4) (v I 1)))
 (.guard (le (ln (v (L I) 2)) (c 549755813888))
 (.guard (le (ln (one (v I 1))) (c 549755813888))
 (.jump 0 [a (v I 0),a (v I 1),a (app (v (L I) 2) (one (v I 1))),a (v (L B) 3),a (v (L B) 4)])))
 (.jump 0 [a (v I 0),a (v I 1),a (v (L I) 2),a (v (L B) 3),a (v (L B) 4)]))))
 (.jump 0 [a (v I 0),a (v I 1),a (v (L I) 2),a (v (L B) 3),a (v (L B) 4)]))))
 (.jump 0 [a (v I 0),a (v I 1),a (v (L I) 2),a (v (L B) 3),a (v (L B) 4)]))))))))
 (.ite (eq (v I 0) (c 2))
 (.guard (le (c 0) (v I 1))
 (.guard (lt (v I 1) (ln (v (L B) 3)))
 (.ite (ix (v (L B) 3) (v I 1))
 (.guard (le (c 0) (v I 1))
 (.guard (lt (v I 1) (ln (v (L B) 4)))
 (.ite (nt (ix (v (L B) 4) (v I 1)))
 (.guard (le (ln (v (L I) 2)) (c 549755813888))
 (.guard (le (ln (one (v I 1))) (c 549755813888))
 (.jump 0 [a (v I 0),a (v I 1),a (app (v (L I) 2) (one (v I 1))),a (v (L B) 3),a (v (L B) 4)])))
 (.jump 0 [a (v I 0),a (v I 1),a (v (L I) 2),a (v (L B) 3),a (v (L B) 4)]))))
 (.jump 0 [a (v I 0),a (v I 1),a (v (L I) 2),a (v (L B) 3),a (v (L B) 4)]))))
 (.jump 0 [a (v I 0),a (v I 1),a (v (L I) 2),a (v (L B) 3),a (v (L B) 4)]))))))
 (.ite (eq (v I 0) (c 1))
 (.guard (le (c 0) (v I 1))
 (.guard (lt (v I 1) (ln (v (L B) 3)))
 (.ite (ix (v (L B) 3) (v I 1))
 (.guard (le (ln (v (L I) 2)) (c 549755813888))
 (.guard (le (ln (one (v I 1))) (c 549755813888))
 (.jump 0 [a (v I 0),a (v I 1),a (app (v (L I) 2) (one (v I 1))),a (v (L B) 3),a (v (L B) 4)])))
 (.guard (le (c 0) (v I 1))
 (.guard (lt (v I 1) (ln (v (L B) 4)))
 (.ite (ix (v (L B) 4) (v I 1))
 (.guard (le (ln (v (L I) 2)) (c 549755813888))
 (.guard (le (ln (one (v I 1))) (c 549755813888))
 (.jump 0 [a (v I 0),a (v I 1),a (app (v (L I) 2) (one (v I 1))),a (v (L B) 3),a (v (L B) 4)])))
 (.ite (eq (v I 0) (c 2))
 (.guard (le (c 0) (v I 1))
 (.guard (lt (v I 1) (ln (v (L B) 3)))
 (.ite (ix (v (L B) 3) (v I 1))
 (.guard (le (c 0) (v I 1))
 (.guard (lt (v I 1) (ln (v (L B) 4)))
 (.ite (nt (ix (v (L B) 4) (v I 1)))
 (.guard (le (ln (v (L I) 2)) (c 549755813888))
 (.guard (le (ln (one (v I 1))) (c 549755813888))
 (.jump 0 [a (v I 0),a (v I 1),a (app (v (L I) 2) (one (v I 1))),a (v (L B) 3),a (v (L B) 4)])))
 (.jump 0 [a (v I 0),a (v I 1),a (v (L I) 2),a (v (L B) 3),a (v (L B) 4)]))))
 (.jump 0 [a (v I 0),a (v I 1),a (v (L I) 2),a (v (L B) 3),a (v (L B) 4)]))))
 (.jump 0 [a (v I 0),a (v I 1),a (v (L I) 2),a (v (L B) 3),a (v (L B) 4)]))))))))
 (.ite (eq (v I 0) (c 2))
 (.guard (le (c 0) (v I 1))
 (.guard (lt (v I 1) (ln (v (L B) 3)))
 (.ite (ix (v (L B) 3) (v I 1))
 (.guard (le (c 0) (v I 1))
 (.guard (lt (v I 1) (ln (v (L B) 4)))
 (.ite (nt (ix (v (L B) 4) (v I 1)))
 (.guard (le (ln (v (L I) 2)) (c 549755813888))
 (.guard (le (ln (one (v I 1))) (c 549755813888))
 (.jump 0 [a (v I 0),a (v I 1),a (app (v (L I) 2) (one (v I 1))),a (v (L B) 3),a (v (L B) 4)])))
 (.jump 0 [a (v I 0),a (v I 1),a (v (L I) 2),a (v (L B) 3),a (v (L B) 4)]))))
 (.jump 0 [a (v I 0),a (v I 1),a (v (L I) 2),a (v (L B) 3),a (v (L B) 4)]))))
 (.jump 0 [a (v I 0),a (v I 1),a (v (L I) 2),a (v (L B) 3),a (v (L B) 4)]))))))
 (.ite (eq (v I 0) (c 1))
 (.guard (le (c 0) (v I 1))
 (.guard (lt (v I 1) (ln (v (L B) 3)))
 (.ite (ix (v (L B) 3) (v I 1))
 (.guard (le (ln (v (L I) 2)) (c 549755813888))
 (.guard (le (ln (one (v I 1))) (c 549755813888))
 (.jump 0 [a (v I 0),a (v I 1),a (app (v (L I) 2) (one (v I 1))),a (v (L B) 3),a (v (L B) 4)])))
 (.guard (le (c 0) (v I 1))
 (.guard (lt (v I 1) (ln (v (L B) 4)))
 (.ite (ix (v (L B) 4) (v I 1))
 (.guard (le (ln (v (L I) 2)) (c 549755813888))
 (.guard (le (ln (one (v I 1))) (c 549755813888))
 (.jump 0 [a (v I 0),a (v I 1),a (app (v (L I) 2) (one (v I 1))),a (v (L B) 3),a (v (L B) 4)])))
 (.ite (eq (v I 0) (c 2))
 (.guard (le (c 0) (v I 1))
 (.guard (lt (v I 1) (ln (v (L B) 3)))
 (.ite (ix (v (L B) 3) (v I 1))
 (.guard (le (c 0) (v I 1))
 (.guard (lt (v I 1) (ln (v (L B) 4)))
 (.ite (nt (ix (v (L B) 4) (v I 1)))
 (.guard (le (ln (v (L I) 2)) (c 549755813888))
 (.guard (le (ln (one (v I 1))) (c 549755813888))
 (.jump 0 [a (v I 0),a (v I 1),a (app (v (L I) 2) (one (v I 1))),a (v (L B) 3),a (v (L B) 4)])))
 (.jump 0 [a (v I 0),a (v I 1),a (v (L I) 2),a (v (L B) 3),a (v (L B) 4)]))))
 (.jump 0 [a (v I 0),a (v I 1),a (v (L I) 2),a (v (L B) 3),a (v (L B) 4)]))))
 (.jump 0 [a (v I 0),a (v I 1),a (v (L I) 2),a (v (L B) 3),a (v (L B) 4)]))))))))
 (.ite (eq (v I 0) (c 2))
 (.guard (le (c 0) (v I 1))
 (.guard (lt (v I 1) (ln (v (L B) 3)))
 (.ite (ix (v (L B) 3) (v I 1))
 (.guard (le (c 0) (v I 1))
 (.guard (lt (v I 1) (ln (v (L B) 4)))
 (.ite (nt (ix (v (L B) 4) (v I 1)))
 (.guard (le (ln (v (L I) 2)) (c 549755813888))
 (.guard (le (ln (one (v I 1))) (c 549755813888))
 (.jump 0 [a (v I 0),a (v I 1),a (app (v (L I) 2) (one (v I 1))),a (v (L B) 3),a (v (L B) 4)])))
 (.jump 0 [a (v I 0),a (v I 1),a (v (L I) 2),a (v (L B) 3),a (v (L B) 4)]))))
 (.jump 0 [a (v I 0),a (v I 1),a (v (L I) 2),a (v (L B) 3),a (v (L B) 4)]))))
 (.jump 0 [a (v I 0),a (v I 1),a (v (L I) 2),a (v (L B) 3),a (v (L B) 4)]))))
 (.jump 0 [a (v I 0),a (add (v I 1) (c 1)),a (v (L I) 2),a (v (L B) 3),a (v (L B) 4)]))
 (.ret [a (v (L I) 2)]))))))))
def ZfE:Tr:=.call Zdf [a (v (L I) 0),a (v (L I) 1),a (c 2)] 100192
 (.ret [a (v (L I) 100192)])
end Go.Proofs.YtdgpohclhppodaaGreat
namespace Go.Proofs.YtdgpohclhppodaaGreat
open Go Go.Sm Go.Sm.Q
def ZfF:Tr:=.loop [a (v (L B) 0),a (c 0),a (nl I)]
 (.ite (lt (v I 1) (ln (v (L B) 0)))
 (.join
 (.guard (le (c 0) (v I 1))
 (.guard (lt (v I 1) (ln (v (L B) 0)))
 (.ite (ix (v (L B) 0) (v I 1))
 (.guard (le (ln (v (L I) 2)) (c 549755813888))
 (.guard (le (ln (one (v I 1))) (c 549755813888))
 (.jump 0 [a (v (L B) 0),a (v I 1),a (app (v (L I) 2) (one (v I 1)))])))
 (.jump 0 [a (v (L B) 0),a (v I 1),a (v (L I) 2)]))))
 (.jump 0 [a (v (L B) 0),a (add (v I 1) (c 1)),a (v (L I) 2)]))
 (.ret [a (v (L I) 2)]))
def ZfG:Tr:=.loop [a (v (L I) 0),a (c 0),a (rep (c 400) (z B))]
 (.ite (lt (v I 1) (ln (v (L I) 0)))
 (.guard (le (c 0) (v I 1))
 (.guard (lt (v I 1) (ln (v (L I) 0)))
 (.guard (le (c 0) (ix (v (L I) 0) (v I 1)))
 (.guard (lt (ix (v (L I) 0) (v I 1)) (ln (v (L B) 2)))
 (.jump 0 [a (v (L I) 0),a (add (v I 1) (c 1)),a (st (v (L B) 2) (ix (v (L I) 0) (v I 1)) (k true))])))))
 (.call Zdh [a (v (L B) 2)] 324
 (.ret [a (v (L I) 324)])))
def ZfH:Tr:=.call Zdf [a (v (L I) 0),a (v (L I) 1),a (c 0)] 100192
 (.ret [a (v (L I) 100192)])
def ZfI:Tr:=.call Zdd [a (v (L V3) 0),a (v (L TR) 1),a (v (L I) 4)] 100256
 (.call ZcJ [a (v (L V3) 0),a (v (L TR) 1)] 100576
 (.call ZcU [a (v (L V3) 0),a (v (L TR) 1),a (v (L I) 100576)] 100640
 (.call Zd6 [a (v (L I) 100256),a (v I 100640)] 100704
 (.ite (v B 100704)
 (.ret [a (k false)])
 (.call Zdg [a (v (L I) 3),a (v (L I) 100256)] 100896
 (.loop [a (v (L (L I)) 2),a (c 0),a (v (L I) 100256),a (v (L I) 100896)]
 (.ite (lt (v I 1) (ln (v (L I) 3)))
 (.guard (le (c 0) (v I 1))
 (.guard (lt (v I 1) (ln (v (L I) 3)))
 (.guard (le (c 0) (ix (v (L I) 3) (v I 1)))
 (.guard (lt (ix (v (L I) 3) (v I 1)) (ln (v (L (L I)) 0)))
 (.call Zdi [a (ix (v (L (L I)) 0) (ix (v (L I) 3) (v I 1)))] 710
 (.call Zdj [a (v (L I) 710),a (v (L I) 2)] 838
 (.ite (gt (ln (v (L I) 838)) (c 0))
 (.ret [a (k false)])
 (.jump 0 [a (v (L (L I)) 0),a (add (v I 1) (c 1)),a (v (L I) 2),a (v (L I) 3)]))))))))
 (.ret [a (k true)]))))))))
def ZfJ:Tr:=.call ZcL [a (v (L V3) 0),a (v (L TR) 1),a (v I 4)] 100320
 (.call Zdb [a (v (L V3) 0),a (v (L TR) 1),a (v (L I) 100320)] 100384
 (.call Zdk [a (v (L V3) 0),a (v (L TR) 1),a (v (L (L I)) 2),a (v (L I) 3),a (v (L I) 100384)] 100768
 (.ite (nt (v B 100768))
 (.ret [a (nl I)])
 (.loop [a (v (L (L I)) 2),a (v (L I) 3),a (c 0),a (v (L V3) 0),a (v (L TR) 1),a (v (L I) 100384)]
 (.ite (lt (v I 2) (ln (v (L I) 5)))
 (.join
 (.call ZcK [a (v (L I) 5)] 328
 (.guard (le (c 0) (v I 2))
 (.guard (lt (v I 2) (ln (v (L I) 328)))
 (.call Zdk [a (v (L V3) 3),a (v (L TR) 4),a (v (L (L I)) 0),a (v (L I) 1),a (st (v (L I) 328) (v I 2) (c 2))] 968
 (.ite (v B 968)
 (.jump 0 [a (v (L (L I)) 0),a (v (L I) 1),a (v I 2),a (v (L V3) 3),a (v (L TR) 4),a (st (v (L I) 328) (v I 2) (c 2))])
 (.jump 0 [a (v (L (L I)) 0),a (v (L I) 1),a (v I 2),a (v (L V3) 3),a (v (L TR) 4),a (v (L I) 5)]))))))
 (.jump 0 [a (v (L (L I)) 0),a (v (L I) 1),a (add (v I 2) (c 1)),a (v (L V3) 3),a (v (L TR) 4),a (v (L I) 5)]))
 (.ret [a (v (L I) 5)]))))))
def ZfK:Tr:=.call Zdd [a (v (L V3) 0),a (v (L TR) 1),a (v (L I) 7)] 100320
 (.loop [a (v I 8),a (c 1),a (v (L I) 7),a (v (L (L I)) 2),a (v (L (L I)) 3),a (v (L (L I)) 4),a (v (L I) 5),a (v (L I) 6),a (v (L I) 100320)]
 (.ite (le (v I 1) (v I 0))
 (.guard (le (c 0) (v I 1))
 (.guard (lt (v I 1) (ln (v (L (L I)) 4)))
 (.call Zdg [a (ix (v (L (L I)) 4) (v I 1)),a (v (L I) 8)] 786
 (.guard (le (c 0) (v I 1))
 (.guard (lt (v I 1) (ln (v (L (L I)) 4)))
 (.jump 0 [a (v I 0),a (add (v I 1) (c 1)),a (v (L I) 2),a (v (L (L I)) 3),a (st (v (L (L I)) 4) (v I 1) (v (L I) 786)),a (v (L (L I)) 5),a (v (L I) 6),a (v (L I) 7),a (v (L I) 8)]))))))
 (.guard (le (ln (v (L (L I)) 5)) (c 549755813888))
 (.guard (le (ln (one (v (L I) 2))) (c 549755813888))
 (.guard (le (ln (v (L I) 6)) (c 549755813888))
 (.guard (le (ln (one (v I 0))) (c 549755813888))
 (.ret [a (v (L (L I)) 3),a (v (L (L I)) 4),a (app (v (L (L I)) 5) (one (v (L I) 2))),a (app (v (L I) 6) (one (v I 0))),a (v (L I) 7)])))))))
def ZfL:Tr:=.call ZcJ [a (v (L V3) 0),a (v (L TR) 1)] 100384
 (.call ZcU [a (v (L V3) 0),a (v (L TR) 1),a (v (L I) 100384)] 100448
 (.ite (eq (v I 7) (v I 100448))
 (.ret [a (v (L (L I)) 2),a (v (L (L I)) 3),a (v (L (L I)) 4),a (v (L I) 5),a (one (v I 7))])
 (.loop [a (v I 7),a (v I 8),a (v (L V3) 0),a (v (L TR) 1),a (v (L (L I)) 2),a (v (L (L I)) 3),a (v (L (L I)) 4),a (v (L I) 5),a (v (L I) 6)]
 (.guard (le (c 0) (v I 1))
 (.guard (lt (v I 1) (ln (v (L (L I)) 5)))
 (.call Zd6 [a (ix (v (L (L I)) 5) (v I 1)),a (v I 0)] 401
 (.ite (v B 401)
 (.guard (le (c 0) (sub (v I 1) (c 1)))
 (.guard (lt (sub (v I 1) (c 1)) (ln (v (L (L I)) 5)))
 (.call Zd7 [a (v (L (L I)) 4),a (v (L (L I)) 5),a (v (L (L I)) 6),a (v (L I) 7),a (v (L I) 8),a (ix (v (L (L I)) 5) (sub (v I 1) (c 1))),a (v I 0)] 977
 (.ite (lt (v I 977) (c 0))
 (.guard (le (c 0) (sub (v I 1) (c 1)))
 (.guard (lt (sub (v I 1) (c 1)) (ln (v (L (L I)) 5)))
 (.call Zdl [a (v (L V3) 2),a (v (L TR) 3),a (v (L (L I)) 4),a (ix (v (L (L I)) 5) (sub (v I 1) (c 1))),a (v I 0)] 2065
 (.call Zdm [a (v (L V3) 2),a (v (L TR) 3),a (v (L (L I)) 4),a (v (L (L I)) 5),a (v (L (L I)) 6),a (v (L I) 7),a (v (L I) 8),a (v (L I) 2065),a (v I 1)] 2129
 (.ret [a (v (L (L I)) 2129),a (v (L (L I)) 2130),a (v (L (L I)) 2131),a (v (L I) 2132),a (v (L I) 2133)])))))
 (.call Zdn [a (v (L V3) 2),a (v (L TR) 3),a (v (L (L I)) 4),a (v (L (L I)) 5),a (v (L (L I)) 6),a (v (L I) 7),a (v (L I) 8),a (v I 977),a (sub (v I 1) (c 1))] 1553
 (.ite (gt (ln (v (L I) 1557)) (c 0))
 (.guard (le (ln (v (L I) 1557)) (c 549755813888))
 (.guard (le (ln (one (v I 0))) (c 549755813888))
 (.ret [a (v (L (L I)) 1553),a (v (L (L I)) 1554),a (v (L (L I)) 1555),a (v (L I) 1556),a (app (v (L I) 1557) (one (v I 0)))])))
 (.jump 0 [a (v I 0),a (v I 1),a (v (L V3) 2),a (v (L TR) 3),a (v (L (L I)) 1553),a (v (L (L I)) 1554),a (v (L (L I)) 1555),a (v (L I) 1556),a (v (L I) 1557)])))))))
 (.ret [a (v (L (L I)) 4),a (v (L (L I)) 5),a (v (L (L I)) 6),a (v (L I) 7),a (v (L I) 8)]))))))))
def ZfM:Tr:=.join
 (.loop [a (v (L B) 7),a (v (L V3) 0),a (v (L TR) 1),a (v (L (L I)) 2),a (v (L (L I)) 3),a (v (L (L I)) 4),a (v (L I) 5),a (v (L I) 6)]
 (.call Zd5 [a (v (L (L I)) 3),a (v (L (L I)) 4),a (v (L (L I)) 5),a (v (L I) 6),a (v (L I) 7),a (v (L B) 0)] 144
 (.ite (ge (v I 144) (c 0))
 (.ite (eq (ln (v (L I) 7)) (c 0))
 (.call Zd5 [a (v (L (L I)) 3),a (v (L (L I)) 4),a (v (L (L I)) 5),a (v (L I) 6),a (v (L I) 7),a (v (L B) 0)] 1168
 (.call Zdn [a (v (L V3) 1),a (v (L TR) 2),a (v (L (L I)) 3),a (v (L (L I)) 4),a (v (L (L I)) 5),a (v (L I) 6),a (v (L I) 7),a (v I 1168),a (sub (ln (v (L (L I)) 4)) (c 1))] 1232
 (.jump 0 [a (v (L B) 0),a (v (L V3) 1),a (v (L TR) 2),a (v (L (L I)) 1232),a (v (L (L I)) 1233),a (v (L (L I)) 1234),a (v (L I) 1235),a (v (L I) 1236)])))
 (.jump 1 [a (v (L (L I)) 3),a (v (L (L I)) 4),a (v (L (L I)) 5),a (v (L I) 6),a (v (L I) 7)]))
 (.jump 1 [a (v (L (L I)) 3),a (v (L (L I)) 4),a (v (L (L I)) 5),a (v (L I) 6),a (v (L I) 7)]))))
 (.ret [a (v (L (L I)) 0),a (v (L (L I)) 1),a (v (L (L I)) 2),a (v (L I) 3),a (v (L I) 4)])
def ZfN:Tr:=.loop [a (c 1),a (v (L V3) 0),a (v (L TR) 1),a (v (L (L I)) 2),a (v (L (L I)) 3),a (v (L (L I)) 4),a (v (L I) 5),a (v (L I) 6)]
 (.ite (lt (v I 0) (sub (ln (v (L (L I)) 4)) (c 1)))
 (.loop [a (v I 0),a (c 0),a (v (L V3) 1),a (v (L TR) 2),a (v (L (L I)) 3),a (v (L (L I)) 4),a (v (L (L I)) 5),a (v (L I) 6),a (v (L I) 7)]
 (.ite (lt (v I 1) (ln (v (L (L I)) 6)))
 (.join
 (.guard (le (c 0) (v I 1))
 (.guard (lt (v I 1) (ln (v (L I) 7)))
 (.ite (eq (ix (v (L I) 7) (v I 1)) (v I 0))
 (.guard (le (c 0) (v I 0))
 (.guard (lt (v I 0) (ln (v (L (L I)) 5)))
 (.guard (le (c 0) (v I 1))
 (.guard (lt (v I 1) (ln (v (L (L I)) 6)))
 (.call Zdk [a (v (L V3) 2),a (v (L TR) 3),a (v (L (L I)) 4),a (ix (v (L (L I)) 5) (v I 0)),a (ix (v (L (L I)) 6) (v I 1))] 1681
 (.ite (v B 1681)
 (.guard (le (c 0) (add (v I 0) (c 1)))
 (.guard (lt (add (v I 0) (c 1)) (ln (v (L (L I)) 5)))
 (.guard (le (c 0) (v I 1))
 (.guard (lt (v I 1) (ln (v (L (L I)) 6)))
 (.call Zdd [a (v (L V3) 2),a (v (L TR) 3),a (ix (v (L (L I)) 6) (v I 1))] 2833
 (.call Zdg [a (ix (v (L (L I)) 5) (add (v I 0) (c 1))),a (v (L I) 2833)] 2897
 (.guard (le (c 0) (add (v I 0) (c 1)))
 (.guard (lt (add (v I 0) (c 1)) (ln (v (L (L I)) 5)))
 (.guard (le (c 0) (v I 1))
 (.guard (lt (v I 1) (ln (v (L I) 7)))
 (.jump 0 [a (v I 0),a (v I 1),a (v (L V3) 2),a (v (L TR) 3),a (v (L (L I)) 4),a (st (v (L (L I)) 5) (add (v I 0) (c 1)) (v (L I) 2897)),a (v (L (L I)) 6),a (st (v (L I) 7) (v I 1) (add (v I 0) (c 1))),a (v (L I) 8)])))))))))))
 (.jump 0 [a (v I 0),a (v I 1),a (v (L V3) 2),a (v (L TR) 3),a (v (L (L I)) 4),a (v (L (L I)) 5),a (v (L (L I)) 6),a (v (L I) 7),a (v (L I) 8)])))))))
 (.jump 0 [a (v I 0),a (v I 1),a (v (L V3) 2),a (v (L TR) 3),a (v (L (L I)) 4),a (v (L (L I)) 5),a (v (L (L I)) 6),a (v (L I) 7),a (v (L I) 8)]))))
 (.jump 0 [a (v I 0),a (add (v I 1) (c 1)),a (v (L V3) 2),a (v (L TR) 3),a (v (L (L I)) 4),a (v (L (L I)) 5),a (v (L (L I)) 6),a (v (L I) 7),a (v (L I) 8)]))
 (.jump 1 [a (add (v I 0) (c 1)),a (v (L V3) 2),a (v (L TR) 3),a (v (L (L I)) 4),a (v (L (L I)) 5),a (v (L (L I)) 6),a (v (L I) 7),a (v (L I) 8)])))
 (.ret [a (v (L (L I)) 3),a (v (L (L I)) 4),a (v (L (L I)) 5),a (v (L I) 6),a (v (L I) 7)]))
def ZfO:Tr:=.loop [a (v (L (L I)) 0),a (c 1)]
 (.ite (lt (add (v I 1) (c 1)) (ln (v (L (L I)) 0)))
 (.guard (le (c 0) (v I 1))
 (.guard (lt (v I 1) (ln (v (L (L I)) 0)))
 (.guard (le (c 0) (add (v I 1) (c 1)))
 (.guard (lt (add (v I 1) (c 1)) (ln (v (L (L I)) 0)))
 (.call ZcX [a (ix (v (L (L I)) 0) (v I 1)),a (ix (v (L (L I)) 0) (add (v I 1) (c 1)))] 898
 (.ite (v B 898)
 (.ret [a (v I 1)])
 (.jump 0 [a (v (L (L I)) 0),a (add (v I 1) (c 1))])))))))
 (.ret [a (c (-1))]))
def ZfP:Tr:=.call ZcH [a (v (L V3) 0),a (v (L TR) 1)] 100256
 (.ite (nt (v B 100256))
 (.ret [a (k false),a (nl (L I)),a (nl I),a (nl (L I)),a (nl I),a (k false)])
 (.call ZcF [a (v (L T4) 2),a (ln (v (L V3) 0)),a (c 2)] 100704
 (.ite (nt (v B 100704))
 (.ret [a (k false),a (nl (L I)),a (nl I),a (nl (L I)),a (nl I),a (k false)])
 (.call ZcT [a (v (L V3) 0),a (v (L TR) 1),a (v (L T4) 2)] 101024
 (.call ZcJ [a (v (L V3) 0),a (v (L TR) 1)] 101280
 (.call ZcU [a (v (L V3) 0),a (v (L TR) 1),a (v (L I) 101280)] 101344
 (.call Zd0 [a (v (L V3) 0),a (v (L TR) 1)] 101536
 (.guard (le (c 0) (v I 101344))
 (.guard (lt (v I 101344) (ln (v (L B) 101024)))
 (.ite (nt (ix (v (L B) 101024) (v I 101344)))
 (.call Zd3 [a (v (L V3) 0),a (v (L TR) 1),a (one (v I 101344))] 102624
 (.ret [a (k false),a (one (one (v I 101344))),a (nl I),a (v (L (L I)) 102624),a (v (L I) 102625),a (k true)]))
 (.loop [a (v (L V3) 0),a (v (L TR) 1),a (k false),a (v (L B) 101024),a (v (L (L I)) 101536),a (one (one (v I 101344))),a (nl (L I)),a (nl I),a (nl I)]
 (.ite (lt (ln (v (L (L I)) 5)) (c 30))
 (.call ZcI [a (v (L V3) 0),a (v (L TR) 1)] 466
 (.call Zd4 [a (c 0),a (v I 466)] 530
 (.guard (le (ln (v (L (L I)) 5)) (c 549755813888))
 (.guard (le (ln (one (v (L I) 530))) (c 549755813888))
 (.call Zdo [a (v (L V3) 0),a (v (L TR) 1),a (v (L (L I)) 4),a (app (v (L (L I)) 5) (one (v (L I) 530))),a (v (L (L I)) 6),a (v (L I) 7),a (v (L I) 8),a (v (L B) 3)] 1042
 (.ite (gt (ln (v (L I) 1046)) (c 0))
 (.call Zd3 [a (v (L V3) 0),a (v (L TR) 1),a (v (L I) 1046)] 1746
 (.ret [a (k false),a (v (L (L I)) 1043),a (nl I),a (v (L (L I)) 1746),a (v (L I) 1747),a (k true)]))
 (.call Zdp [a (v (L V3) 0),a (v (L TR) 1),a (v (L (L I)) 1042),a (v (L (L I)) 1043),a (v (L (L I)) 1044),a (v (L I) 1045),a (v (L I) 1046)] 1554
 (.call Zdq [a (v (L (L I)) 1555)] 1810
 (.ite (gt (v I 1810) (c 0))
 (.guard (le (c 0) (v I 1810))
 (.guard (lt (v I 1810) (ln (v (L (L I)) 1555)))
 (.call ZcK [a (ix (v (L (L I)) 1555) (v I 1810))] 2514
 (.ret [a (k true),a (v (L (L I)) 1555),a (v (L I) 2514),a (nl (L I)),a (nl I),a (k true)]))))
 (.jump 0 [a (v (L V3) 0),a (v (L TR) 1),a (v B 2),a (v (L B) 3),a (v (L (L I)) 1554),a (v (L (L I)) 1555),a (v (L (L I)) 1556),a (v (L I) 1557),a (v (L I) 1558)]))))))))))
 (.ret [a (k false),a (nl (L I)),a (nl I),a (nl (L I)),a (nl I),a (k false)])))))))))))))
def ZfQ:Tr:=.ite (ne (ln (v (L I) 0)) (ln (v (L I) 1)))
 (.ret [a (k false)])
 (.loop [a (v (L I) 1),a (v (L I) 0),a (ln (v (L I) 0)),a (c 0)]
 (.ite (lt (v I 3) (v I 2))
 (.guard (le (c 0) (v I 3))
 (.guard (lt (v I 3) (ln (v (L I) 1)))
 (.guard (le (c 0) (v I 3))
 (.guard (lt (v I 3) (ln (v (L I) 0)))
 (.ite (ne (ix (v (L I) 0) (v I 3)) (ix (v (L I) 1) (v I 3)))
 (.ret [a (k false)])
 (.jump 0 [a (v (L I) 0),a (v (L I) 1),a (v I 2),a (add (v I 3) (c 1))]))))))
 (.ret [a (k true)])))
def ZfR:Tr:=.guard (le (c 0) (ln (v (L (L I)) 0)))
 (.guard (le (ln (v (L (L I)) 0)) (c 549755813888))
 (.guard (le (ln (v (L I) 1)) (c 549755813888))
 (.loop [a (v (L (L I)) 0),a (v (L I) 1),a (ln (v (L I) 1)),a (c 0),a (rep (ln (v (L (L I)) 0)) (z B)),a (v (L I) 1)]
 (.ite (lt (v I 3) (v I 2))
 (.guard (le (c 0) (v I 3))
 (.guard (lt (v I 3) (ln (v (L I) 1)))
 (.guard (le (c 0) (ix (v (L I) 1) (v I 3)))
 (.guard (lt (ix (v (L I) 1) (v I 3)) (ln (v (L B) 4)))
 (.jump 0 [a (v (L (L I)) 0),a (v (L I) 1),a (v I 2),a (add (v I 3) (c 1)),a (st (v (L B) 4) (ix (v (L I) 1) (v I 3)) (k true)),a (v (L I) 5)])))))
 (.loop [a (v (L (L I)) 0),a (v (L B) 4),a (v (L I) 5)]
 (.ite (gt (ln (v (L I) 2)) (c 0))
 (.guard (lt (c 0) (ln (v (L I) 2)))
 (.guard (le (c 1) (ln (v (L I) 2)))
 (.guard (le (c 0) (ix (v (L I) 2) (c 0)))
 (.guard (lt (ix (v (L I) 2) (c 0)) (ln (v (L (L I)) 0)))
 (.loop [a (v (L (L I)) 0),a (ix (v (L (L I)) 0) (ix (v (L I) 2) (c 0))),a (ln (ix (v (L (L I)) 0) (ix (v (L I) 2) (c 0)))),a (c 0),a (v (L B) 1),a (drop (v (L I) 2) (c 1))]
 (.ite (lt (v I 3) (v I 2))
 (.join
 (.guard (le (c 0) (v I 3))
 (.guard (lt (v I 3) (ln (v (L I) 1)))
 (.guard (le (c 0) (ix (v (L I) 1) (v I 3)))
 (.guard (lt (ix (v (L I) 1) (v I 3)) (ln (v (L B) 4)))
 (.ite (nt (ix (v (L B) 4) (ix (v (L I) 1) (v I 3))))
 (.guard (le (c 0) (ix (v (L I) 1) (v I 3)))
 (.guard (lt (ix (v (L I) 1) (v I 3)) (ln (v (L B) 4)))
 (.guard (le (ln (v (L I) 5)) (c 549755813888))
 (.guard (le (ln (one (ix (v (L I) 1) (v I 3)))) (c 549755813888))
 (.jump 0 [a (v (L (L I)) 0),a (v (L I) 1),a (v I 2),a (v I 3),a (st (v (L B) 4) (ix (v (L I) 1) (v I 3)) (k true)),a (app (v (L I) 5) (one (ix (v (L I) 1) (v I 3))))])))))
 (.jump 0 [a (v (L (L I)) 0),a (v (L I) 1),a (v I 2),a (v I 3),a (v (L B) 4),a (v (L I) 5)]))))))
 (.jump 0 [a (v (L (L I)) 0),a (v (L I) 1),a (v I 2),a (add (v I 3) (c 1)),a (v (L B) 4),a (v (L I) 5)]))
 (.jump 1 [a (v (L (L I)) 0),a (v (L B) 4),a (v (L I) 5)])))))))
 (.ret [a (v (L B) 1)])))))))
def ZfS:Tr:=.call Zcc [a (v (L V3) 0),a (v (L TR) 1)] 100320
 (.call Zc2 [a (v (L V3) 0),a (v (L TR) 1)] 100384
 (.call Zc3 [a (v (L V3) 0),a (v (L TR) 1),a (v (L I) 100384)] 100448
 (.call Zdt [a (v (L (L I)) 100320),a (one (v I 100448))] 100576
 (.ret [a (v (L B) 100576)]))))
def ZfT:Tr:=.call Zb_ [a (v (L V3) 0),a (v (L TR) 1),a (v (L T4) 2)] 100256
 (.loop [a (v (L B) 3),a (ln (v (L B) 100256)),a (c 0),a (v (L B) 100256)]
 (.ite (lt (v I 2) (v I 1))
 (.join
 (.guard (le (c 0) (v I 2))
 (.guard (lt (v I 2) (ln (v (L B) 3)))
 (.guard (le (c 0) (v I 2))
 (.guard (lt (v I 2) (ln (v (L B) 0)))
 (.ite (ix (v (L B) 0) (v I 2))
 (.ite (nt (ix (v (L B) 3) (v I 2)))
 (.ret [a (k false)])
 (.jump 0 [a (v (L B) 0),a (v I 1),a (v I 2),a (v (L B) 3)]))
 (.jump 0 [a (v (L B) 0),a (v I 1),a (v I 2),a (v (L B) 3)]))))))
 (.jump 0 [a (v (L B) 0),a (v I 1),a (add (v I 2) (c 1)),a (v (L B) 3)]))
 (.ret [a (k true)])))
def ZfU:Tr:=.call ZbU [a (v (L V3) 0),a (v (L TR) 1),a (v (L T4) 2)] 100256
 (.ite (v B 100256)
 (.call Zdu [a (v (L V3) 0),a (v (L TR) 1)] 100576
 (.call Zdv [a (v (L V3) 0),a (v (L TR) 1),a (v (L T4) 2),a (v (L B) 100576)] 100640
 (.ret [a (v B 100640)])))
 (.ret [a (k false)]))
def ZfV:Tr:=.loop [a (v (L I) 0),a (v I 1),a (v (L I) 0),a (ln (v (L I) 0)),a (c 0)]
 (.ite (lt (v I 4) (v I 3))
 (.join
 (.guard (le (c 0) (v I 4))
 (.guard (lt (v I 4) (ln (v (L I) 2)))
 (.call ZbM [a (ix (v (L I) 2) (v I 4)),a (c 0),a (sub (v I 1) (c 1))] 581
 (.ite (nt (v B 581))
 (.ret [a (k false)])
 (.ite (gt (v I 4) (c 0))
 (.guard (le (c 0) (sub (v I 4) (c 1)))
 (.guard (lt (sub (v I 4) (c 1)) (ln (v (L I) 0)))
 (.ite (ge (ix (v (L I) 0) (sub (v I 4) (c 1))) (ix (v (L I) 2) (v I 4)))
 (.ret [a (k false)])
 (.jump 0 [a (v (L I) 0),a (v I 1),a (v (L I) 2),a (v I 3),a (v I 4)]))))
 (.jump 0 [a (v (L I) 0),a (v I 1),a (v (L I) 2),a (v I 3),a (v I 4)]))))))
 (.jump 0 [a (v (L I) 0),a (v I 1),a (v (L I) 2),a (v I 3),a (add (v I 4) (c 1))]))
 (.ret [a (k true)]))
def ZfW:Tr:=.guard (le (c 0) (ln (v (L (L I)) 0)))
 (.guard (le (ln (v (L (L I)) 0)) (c 549755813888))
 (.loop [a (v (L (L I)) 0),a (v (L I) 1),a (ln (v (L I) 1)),a (c 0),a (rep (ln (v (L (L I)) 0)) (z B))]
 (.ite (lt (v I 3) (v I 2))
 (.guard (le (c 0) (v I 3))
 (.guard (lt (v I 3) (ln (v (L I) 1)))
 (.guard (le (c 0) (ix (v (L I) 1) (v I 3)))
 (.guard (lt (ix (v (L I) 1) (v I 3)) (ln (v (L (L I)) 0)))
 (.loop [a (v (L (L I)) 0),a (v (L I) 1),a (v I 2),a (v I 3),a (ix (v (L (L I)) 0) (ix (v (L I) 1) (v I 3))),a (ln (ix (v (L (L I)) 0) (ix (v (L I) 1) (v I 3)))),a (c 0),a (v (L B) 4)]
 (.ite (lt (v I 6) (v I 5))
 (.guard (le (c 0) (v I 6))
 (.guard (lt (v I 6) (ln (v (L I) 4)))
 (.guard (le (c 0) (ix (v (L I) 4) (v I 6)))
 (.guard (lt (ix (v (L I) 4) (v I 6)) (ln (v (L B) 7)))
 (.jump 0 [a (v (L (L I)) 0),a (v (L I) 1),a (v I 2),a (v I 3),a (v (L I) 4),a (v I 5),a (add (v I 6) (c 1)),a (st (v (L B) 7) (ix (v (L I) 4) (v I 6)) (k true))])))))
 (.jump 1 [a (v (L (L I)) 0),a (v (L I) 1),a (v I 2),a (add (v I 3) (c 1)),a (v (L B) 7)])))))))
 (.call Zcf [a (v (L B) 4)] 134
 (.ret [a (v (L I) 134)])))))
def ZfX:Tr:=.call ZbT [a (v (L V3) 0),a (v (L TR) 1)] 100192
 (.ite (nt (v B 100192))
 (.ret [a (k false)])
 (.call ZbM [a (ln (v (L (L I)) 2)),a (c 1),a (c 30)] 100512
 (.ite (nt (v B 100512))
 (.ret [a (k false)])
 (.guard (lt (c 0) (ln (v (L (L I)) 2)))
 (.call Zc2 [a (v (L V3) 0),a (v (L TR) 1)] 101088
 (.call Zc3 [a (v (L V3) 0),a (v (L TR) 1),a (v (L I) 101088)] 101152
 (.call Zcg [a (ix (v (L (L I)) 2) (c 0)),a (one (v I 101152))] 101280
 (.ite (nt (v B 101280))
 (.ret [a (k false)])
 (.call Zcc [a (v (L V3) 0),a (v (L TR) 1)] 101536
 (.guard (le (c 1) (ln (re false (v (L (L I)) 2))))
 (.loop [a (v (L (L I)) 2),a (drop (re false (v (L (L I)) 2)) (c 1)),a (ln (drop (re false (v (L (L I)) 2)) (c 1))),a (c 0),a (v (L V3) 0),a (v (L TR) 1),a (v (L (L I)) 101536)]
 (.ite (lt (v I 3) (v I 2))
 (.join
 (.guard (le (c 0) (v I 3))
 (.guard (lt (v I 3) (ln (v (L (L I)) 1)))
 (.call ZbO [a (v (L V3) 4)] 585
 (.call Zdx [a (ix (v (L (L I)) 1) (v I 3)),a (v I 585)] 649
 (.ite (nt (v B 649))
 (.ret [a (k false)])
 (.call ZbO [a (v (L V3) 4)] 969
 (.call Zcd [a (ix (v (L (L I)) 1) (v I 3)),a (v I 969)] 1033
 (.guard (le (c 0) (v I 3))
 (.guard (lt (v I 3) (ln (v (L (L I)) 0)))
 (.loop [a (ix (v (L (L I)) 0) (v I 3)),a (ln (ix (v (L (L I)) 0) (v I 3))),a (c 0),a (v (L (L I)) 0),a (v I 3),a (v (L (L I)) 1),a (v I 2),a (v I 3),a (v (L B) 1033),a (v (L V3) 4),a (v (L TR) 5),a (v (L (L I)) 6)]
 (.ite (lt (v I 2) (v I 1))
 (.guard (le (c 0) (v I 2))
 (.guard (lt (v I 2) (ln (v (L I) 0)))
 (.guard (le (c 0) (ix (v (L I) 0) (v I 2)))
 (.guard (lt (ix (v (L I) 0) (v I 2)) (ln (v (L B) 8)))
 (.ite (nt (ix (v (L B) 8) (ix (v (L I) 0) (v I 2))))
 (.ite (ge (v I 2) (c 0))
 (.ret [a (k false)])
 (.guard (le (c 0) (v I 4))
 (.guard (lt (v I 4) (ln (v (L (L I)) 3)))
 (.call Zdy [a (v (L (L I)) 11),a (ix (v (L (L I)) 3) (v I 4))] 2640
 (.loop [a (ln (v (L I) 2640)),a (c 0),a (v (L (L I)) 3),a (v (L (L I)) 5),a (v I 6),a (v I 7),a (v (L I) 2640),a (v (L B) 8),a (v (L V3) 9),a (v (L TR) 10),a (v (L (L I)) 11)]
 (.ite (lt (v I 1) (v I 0))
 (.guard (le (c 0) (v I 1))
 (.guard (lt (v I 1) (ln (v (L I) 6)))
 (.guard (le (c 0) (ix (v (L I) 6) (v I 1)))
 (.guard (lt (ix (v (L I) 6) (v I 1)) (ln (v (L B) 7)))
 (.ite (nt (ix (v (L B) 7) (ix (v (L I) 6) (v I 1))))
 (.ite (ge (v I 1) (c 0))
 (.ret [a (k false)])
 (.jump 2 [a (v (L (L I)) 2),a (v (L (L I)) 3),a (v I 4),a (v I 5),a (v (L V3) 8),a (v (L TR) 9),a (v (L (L I)) 10)]))
 (.jump 0 [a (v I 0),a (add (v I 1) (c 1)),a (v (L (L I)) 2),a (v (L (L I)) 3),a (v I 4),a (v I 5),a (v (L I) 6),a (v (L B) 7),a (v (L V3) 8),a (v (L TR) 9),a (v (L (L I)) 10)]))))))
 (.jump 2 [a (v (L (L I)) 2),a (v (L (L I)) 3),a (v I 4),a (v I 5),a (v (L V3) 8),a (v (L TR) 9),a (v (L (L I)) 10)])))))))
 (.jump 0 [a (v (L I) 0),a (v I 1),a (add (v I 2) (c 1)),a (v (L (L I)) 3),a (v I 4),a (v (L (L I)) 5),a (v I 6),a (v I 7),a (v (L B) 8),a (v (L V3) 9),a (v (L TR) 10),a (v (L (L I)) 11)]))))))
 (.guard (le (c 0) (v I 4))
 (.guard (lt (v I 4) (ln (v (L (L I)) 3)))
 (.call Zdy [a (v (L (L I)) 11),a (ix (v (L (L I)) 3) (v I 4))] 1232
 (.loop [a (ln (v (L I) 1232)),a (c 0),a (v (L (L I)) 3),a (v (L (L I)) 5),a (v I 6),a (v I 7),a (ge (c (-1)) (c 0)),a (v (L I) 1232),a (v (L B) 8),a (v (L V3) 9),a (v (L TR) 10),a (v (L (L I)) 11)]
 (.ite (lt (v I 1) (v I 0))
 (.guard (le (c 0) (v I 1))
 (.guard (lt (v I 1) (ln (v (L I) 7)))
 (.guard (le (c 0) (ix (v (L I) 7) (v I 1)))
 (.guard (lt (ix (v (L I) 7) (v I 1)) (ln (v (L B) 8)))
 (.ite (nt (ix (v (L B) 8) (ix (v (L I) 7) (v I 1))))
 (.ite (pk (v B 6) (k true) (ge (v I 1) (c 0)))
 (.ret [a (k false)])
 (.jump 2 [a (v (L (L I)) 2),a (v (L (L I)) 3),a (v I 4),a (v I 5),a (v (L V3) 9),a (v (L TR) 10),a (v (L (L I)) 11)]))
 (.jump 0 [a (v I 0),a (add (v I 1) (c 1)),a (v (L (L I)) 2),a (v (L (L I)) 3),a (v I 4),a (v I 5),a (v B 6),a (v (L I) 7),a (v (L B) 8),a (v (L V3) 9),a (v (L TR) 10),a (v (L (L I)) 11)]))))))
 (.ite (pk (v B 6) (k true) (ge (c (-1)) (c 0)))
 (.ret [a (k false)])
 (.jump 2 [a (v (L (L I)) 2),a (v (L (L I)) 3),a (v I 4),a (v I 5),a (v (L V3) 9),a (v (L TR) 10),a (v (L (L I)) 11)]))))))))))))))))))
 (.jump 0 [a (v (L (L I)) 0),a (v (L (L I)) 1),a (v I 2),a (add (v I 3) (c 1)),a (v (L V3) 4),a (v (L TR) 5),a (v (L (L I)) 6)]))
 (.ret [a (k true)])))))))))))))
def ZfY:Tr:=.call ZbT [a (v (L V3) 0),a (v (L TR) 1)] 100192
 (.ite (v B 100192)
 (.call ZbO [a (v (L V3) 0)] 100512
 (.call Zdx [a (v (L I) 2),a (v I 100512)] 100576
 (.ret [a (v B 100576)])))
 (.ret [a (k false)]))
def ZfZ:Tr:=.call ZbO [a (v (L V3) 0)] 100320
 (.call Zcd [a (v (L I) 2),a (v I 100320)] 100384
 (.call Zc2 [a (v (L V3) 0),a (v (L TR) 1)] 100768
 (.call Zc3 [a (v (L V3) 0),a (v (L TR) 1),a (v (L I) 100768)] 100832
 (.guard (le (c 0) (v I 100832))
 (.guard (lt (v I 100832) (ln (v (L B) 100384)))
 (.ite (ix (v (L B) 100384) (v I 100832))
 (.call Zcc [a (v (L V3) 0),a (v (L TR) 1)] 101280
 (.call Zdy [a (v (L (L I)) 101280),a (v (L I) 2)] 101344
 (.loop [a (ln (v (L I) 101344)),a (c 0),a (v (L I) 101344),a (v (L B) 100384)]
 (.ite (lt (v I 1) (v I 0))
 (.guard (le (c 0) (v I 1))
 (.guard (lt (v I 1) (ln (v (L I) 2)))
 (.guard (le (c 0) (ix (v (L I) 2) (v I 1)))
 (.guard (lt (ix (v (L I) 2) (v I 1)) (ln (v (L B) 3)))
 (.ite (nt (ix (v (L B) 3) (ix (v (L I) 2) (v I 1))))
 (.ret [a (nt (ge (v I 1) (c 0)))])
 (.jump 0 [a (v I 0),a (add (v I 1) (c 1)),a (v (L I) 2),a (v (L B) 3)]))))))
 (.ret [a (nt (ge (c (-1)) (c 0)))])))))
 (.ret [a (k false)])))))))
def Zf_:Tr:=.call ZdA [a (v (L V3) 0),a (v (L TR) 1),a (v (L I) 2)] 100256
 (.ite (v B 100256)
 (.call ZdB [a (v (L V3) 0),a (v (L TR) 1),a (v (L I) 2)] 100512
 (.ret [a (v B 100512)]))
 (.ret [a (k false)]))
def Zg0:Tr:=.call ZbU [a (v (L V3) 0),a (v (L TR) 1),a (v (L T4) 2)] 100256
 (.ite (v B 100256)
 (.call ZdC [a (v (L V3) 0),a (v (L TR) 1),a (v (L I) 3)] 100512
 (.ite (v B 100512)
 (.call ZbO [a (v (L V3) 0)] 101024
 (.call Zcd [a (v (L I) 3),a (v I 101024)] 101088
 (.call Zdv [a (v (L V3) 0),a (v (L TR) 1),a (v (L T4) 2),a (v (L B) 101088)] 101152
 (.ret [a (v B 101152)]))))
 (.ret [a (k false)])))
 (.ret [a (k false)]))
def Zg1:Tr:=.ite (le (ln (v (L I) 0)) (c 5))
 (.loop [a (v (L I) 0),a (ln (v (L I) 0)),a (c 0)]
 (.ite (lt (v I 2) (v I 1))
 (.guard (le (c 0) (v I 2))
 (.guard (lt (v I 2) (ln (v (L I) 0)))
 (.call ZbM [a (ix (v (L I) 0) (v I 2)),a (c (-9999)),a (c 9999)] 707
 (.ite (nt (v B 707))
 (.ret [a (nt (ge (v I 2) (c 0)))])
 (.jump 0 [a (v (L I) 0),a (v I 1),a (add (v I 2) (c 1))])))))
 (.ret [a (nt (ge (c (-1)) (c 0)))])))
 (.ret [a (k false)])
def Zg2:Tr:=.call ZbQ [a (v (L T4) 0),a (v I 1)] 100192
 (.ret [a (nt (emp (v (N I) 100192)))])
def Zg3:Tr:=.call ZdE [a (v (L I) 1)] 100192
 (.ite (nt (v B 100192))
 (.ret [a (c 0),a (k false)])
 (.call ZdF [a (v (L T4) 0),a (ln (v (L I) 1))] 100576
 (.ite (nt (v B 100576))
 (.ret [a (c 0),a (k false)])
 (.call ZbZ [a (v (L T4) 0),a (v (L I) 1)] 100896
 (.ret [a (v I 100896),a (k true)])))))
def Zg4:Tr:=.call ZbT [a (v (L V3) 0),a (v (L TR) 1)] 100256
 (.ite (nt (v B 100256))
 (.ret [a (k false)])
 (.call ZbM [a (ln (v (L (L I)) 2)),a (c 1),a (c 500)] 100640
 (.ite (nt (v B 100640))
 (.ret [a (k false)])
 (.ite (ne (ln (v (L I) 3)) (sub (ln (v (L (L I)) 2)) (c 1)))
 (.ret [a (k false)])
 (.guard (lt (c 0) (ln (v (L (L I)) 2)))
 (.call Zc2 [a (v (L V3) 0),a (v (L TR) 1)] 101856
 (.call Zcg [a (ix (v (L (L I)) 2) (c 0)),a (v (L I) 101856)] 101920
 (.ite (nt (v B 101920))
 (.ret [a (k false)])
 (.loop [a (v (L I) 3),a (ln (v (L I) 3)),a (c 0),a (v (L V3) 0),a (v (L TR) 1),a (v (L (L I)) 2),a (v (L I) 3)]
 (.ite (lt (v I 2) (v I 1))
 (.guard (le (c 0) (v I 2))
 (.guard (lt (v I 2) (ln (v (L I) 0)))
 (.call ZbM [a (ix (v (L I) 0) (v I 2)),a (c 0),a (sub (ln (v (L TR) 4)) (c 1))] 713
 (.ite (nt (v B 713))
 (.ret [a (k false)])
 (.guard (le (c 0) (v I 2))
 (.guard (lt (v I 2) (ln (v (L (L I)) 5)))
 (.call Zc5 [a (v (L V3) 3),a (v (L TR) 4),a (ix (v (L (L I)) 5) (v I 2)),a (ix (v (L I) 0) (v I 2))] 1289
 (.ite (nt (v B 1290))
 (.ret [a (k false)])
 (.guard (le (c 0) (add (v I 2) (c 1)))
 (.guard (lt (add (v I 2) (c 1)) (ln (v (L (L I)) 5)))
 (.call Zcg [a (v (L I) 1289),a (ix (v (L (L I)) 5) (add (v I 2) (c 1)))] 2313
 (.ite (nt (v B 2313))
 (.ret [a (k false)])
 (.jump 0 [a (v (L I) 0),a (v I 1),a (add (v I 2) (c 1)),a (v (L V3) 3),a (v (L TR) 4),a (v (L (L I)) 5),a (v (L I) 6)])))))))))))))
 (.ret [a (k true)])))))))))))
def Zg5:Tr:=.ite (gt (ln (v (L U) 0)) (c 1048576))
 (.ret [a (k true)])
 (.call ZbL [a (v (L U) 0)] 100320
 (.call ZcE [a (v (L V3) 100320),a (v (L TR) 100321),a (v (L T4) 100322)] 100896
 (.call Zdr [a (v (L V3) 100320),a (v (L TR) 100321),a (v (L T4) 100322)] 101472
 (.ite (.o2 .bne (v B 100901) (v B 101477))
 (.ite (.o2 .beq (v B 100901) (v B 101477))
 (.ite (nt (v B 100901))
 (.call ZbT [a (v (L V3) 100320),a (v (L TR) 100321)] 104416
 (.call ZcH [a (v (L V3) 100320),a (v (L TR) 100321)] 104480
 (.ret [a (.o2 .beq (v B 104416) (v B 104480))])))
 (.ret [a (k false)]))
 (.ret [a (k false)]))
 (.ite (.o2 .bne (v B 100896) (v B 101472))
 (.ite (.o2 .beq (v B 100901) (v B 101477))
 (.ite (nt (v B 100901))
 (.call ZbT [a (v (L V3) 100320),a (v (L TR) 100321)] 104416
 (.call ZcH [a (v (L V3) 100320),a (v (L TR) 100321)] 104480
 (.ret [a (.o2 .beq (v B 104416) (v B 104480))])))
 (.ret [a (k false)]))
 (.ret [a (k false)]))
 (.call Zds [a (v (L I) 100898),a (v (L I) 101474)] 102880
 (.ite (nt (v B 102880))
 (.ite (.o2 .beq (v B 100901) (v B 101477))
 (.ite (nt (v B 100901))
 (.call ZbT [a (v (L V3) 100320),a (v (L TR) 100321)] 104416
 (.call ZcH [a (v (L V3) 100320),a (v (L TR) 100321)] 104480
 (.ret [a (.o2 .beq (v B 104416) (v B 104480))])))
 (.ret [a (k false)]))
 (.ret [a (k false)]))
 (.call ZbT [a (v (L V3) 100320),a (v (L TR) 100321)] 103264
 (.call ZcH [a (v (L V3) 100320),a (v (L TR) 100321)] 103328
 (.ite (.o2 .bne (v B 103264) (v B 103328))
 (.ite (.o2 .beq (v B 100901) (v B 101477))
 (.ite (nt (v B 100901))
 (.call ZbT [a (v (L V3) 100320),a (v (L TR) 100321)] 104416
 (.call ZcH [a (v (L V3) 100320),a (v (L TR) 100321)] 104480
 (.ret [a (.o2 .beq (v B 104416) (v B 104480))])))
 (.ret [a (k false)]))
 (.ret [a (k false)]))
 (.ite (nt (v B 100901))
 (.ite (.o2 .beq (v B 100901) (v B 101477))
 (.ite (nt (v B 100901))
 (.call ZbT [a (v (L V3) 100320),a (v (L TR) 100321)] 104416
 (.call ZcH [a (v (L V3) 100320),a (v (L TR) 100321)] 104480
 (.ret [a (.o2 .beq (v B 104416) (v B 104480))])))
 (.ret [a (k false)]))
 (.ret [a (k false)]))
 (.join
 (.call Zdw [a (v (L V3) 100320),a (v (L TR) 100321),a (v (L T4) 100322)] 104032
 (.ite (.o2 .bne (v B 100896) (v B 104032))
 (.ret [a (k false)])
 (.call Zdz [a (v (L V3) 100320),a (v (L TR) 100321),a (v (L (L I)) 100897)] 104416
 (.ite (nt (v B 104416))
 (.ite (v B 100896)
 (.ret [a (k false)])
 (.jump 0 [a (v (L T4) 100322),a (v (L V3) 100320),a (v (L TR) 100321),a (v B 100896),a (v (L (L I)) 100897),a (v (L I) 100898),a (v (L (L I)) 100899),a (v (L I) 100900)]))
 (.jump 0 [a (v (L T4) 100322),a (v (L V3) 100320),a (v (L TR) 100321),a (v B 100896),a (v (L (L I)) 100897),a (v (L I) 100898),a (v (L (L I)) 100899),a (v (L I) 100900)])))))
 (.ite (v B 3)
 (.call ZdD [a (v (L V3) 1),a (v (L TR) 2),a (v (L T4) 0),a (v (L I) 5)] 398
 (.ite (v B 398)
 (.ret [a (eq (ln (v (L (L I)) 6)) (c 0))])
 (.ret [a (k false)])))
 (.guard (le (c 0) (sub (ln (v (L (L I)) 6)) (c 1)))
 (.guard (lt (sub (ln (v (L (L I)) 6)) (c 1)) (ln (v (L (L I)) 6)))
 (.call ZdG [a (v (L T4) 0),a (ix (v (L (L I)) 6) (sub (ln (v (L (L I)) 6)) (c 1)))] 846
 (.call ZdH [a (v (L V3) 1),a (v (L TR) 2),a (v (L (L I)) 6),a (v (L I) 7)] 1422
 (.ite (v B 1422)
 (.ite (v B 847)
 (.ret [a (eq (v I 846) (c 0))])
 (.ret [a (k false)]))
 (.ret [a (k false)])))))))))))))))))))
end Go.Proofs.YtdgpohclhppodaaGreat
namespace Go.Proofs.YtdgpohclhppodaaGreat
open Go Go.Sm Go.Sm.Q
set_option maxRecDepth 100000
def trL:List (Nat×Tr):=[
(Zbo,ZdL),
(ZI,ZdM),
(Zbp,ZdN),
(Zbq,ZdO),
(Zbr,ZdP),
(Zbs,ZdQ),
(Zbt,ZdR),
(Zbu,ZdS),
(Zbv,ZdT),
(Zbw,ZdU),
(Zbx,ZdV),
(Zby,ZdW),
(Zbz,ZdX),
(ZbA,ZdY),
(ZbB,ZdZ),
(ZbC,Zd_),
(ZbD,Ze0),
(ZbE,Ze1),
(ZbF,Ze2),
(ZbG,Ze3),
(ZbH,Ze4),
(ZbI,Ze5),
(ZbJ,Ze6),
(ZbK,Ze7),
(ZbL,Ze8),
(ZbM,Ze9),
(ZbN,Zea),
(ZbO,Zeb),
(ZbP,Zec),
(ZbQ,Zed),
(ZbR,Zee),
(ZbS,Zef),
(ZbT,Zeg),
(ZbU,Zeh),
(ZbV,Zei),
(ZbW,Zej),
(ZbX,Zek),
(ZbY,Zel),
(ZbZ,Zem),
(Zb_,Zen),
(Zc0,Zeo),
(Zc1,Zep),
(Zc2,Zeq),
(Zc3,Zer),
(Zc4,Zes),
(Zc5,Zet),
(Zc6,Zeu),
(Zc7,Zev),
(Zc8,Zew),
(Zc9,Zex),
(Zca,Zey),
(Zcb,Zez),
(Zcc,ZeA),
(Zcd,ZeB),
(Zce,ZeC),
(Zcf,ZeD),
(Zcg,ZeE),
(Zch,ZeF),
(Zci,ZeG),
(Zcj,ZeH),
(Zck,ZeI),
(Zcl,ZeJ),
(Zcm,ZeK),
(Zcn,ZeL),
(Zco,ZeM),
(Zcp,ZeN),
(Zcq,ZeO),
(Zcr,ZeP),
(Zcs,ZeQ),
(Zct,ZeR),
(Zcu,ZeS),
(Zcv,ZeT),
(Zcw,ZeU),
(Zcx,ZeV),
(Zcy,ZeW),
(Zcz,ZeX),
(ZcA,ZeY),
(ZcB,ZeZ),
(ZcC,Ze_),
(ZcD,Zf0),
(ZcE,Zf1),
(ZcF,Zf2),
(ZcG,Zf3),
(ZcH,Zf4),
(ZcI,Zf5),
(ZcJ,Zf6),
(ZcK,Zf7),
(ZcL,Zf8),
(ZcM,Zf9),
(ZcN,Zfa),
(ZcO,Zfb),
(ZcP,Zfc),
(ZcQ,Zfd),
(ZcR,Zfe),
(ZcS,Zff),
(ZcT,Zfg),
(ZcU,Zfh),
(ZcV,Zfi),
(ZcW,Zfj),
(ZcX,Zfk),
(ZcY,Zfl),
(ZcZ,Zfm),
(Zc_,Zfn),
(Zd0,Zfo),
(Zd1,Zfp),
(Zd2,Zfq),
(Zd3,Zfr),
(Zd4,Zfs),
(Zd5,Zft),
(Zd6,Zfu),
(Zd7,Zfv),
(Zd8,Zfw),
(Zd9,Zfx),
(Zda,Zfy),
(Zdb,Zfz),
(Zdc,ZfA),
(Zdd,ZfB),
(Zde,ZfC),
(Zdf,ZfD),
(Zdg,ZfE),
(Zdh,ZfF),
(Zdi,ZfG),
(Zdj,ZfH),
(Zdk,ZfI),
(Zdl,ZfJ),
(Zdm,ZfK),
(Zdn,ZfL),
(Zdo,ZfM),
(Zdp,ZfN),
(Zdq,ZfO),
(Zdr,ZfP),
(Zds,ZfQ),
(Zdt,ZfR),
(Zdu,ZfS),
(Zdv,ZfT),
(Zdw,ZfU),
(Zdx,ZfV),
(Zdy,ZfW),
(Zdz,ZfX),
(ZdA,ZfY),
(ZdB,ZfZ),
(ZdC,Zf_),
(ZdD,Zg0),
(ZdE,Zg1),
(ZdF,Zg2),
(ZdG,Zg3),
(ZdH,Zg4),
(ZdI,Zg5)]
def haL:List Nat:=[]
abbrev YR:=And.intro @Sd (And.intro @So @Sk)
abbrev YS:=And.intro @Sa (And.intro @Sb (And.intro @Sc @Se))
def mc:Mc:=⟨fun f=>(trL.find? (·.1==f)).map (·.2),fun f ins=>if haL.contains f then some ins else none⟩
theorem Zg6:mc.F Zbo=some ZdL:=rfl
theorem Zg7:mc.F ZI=some ZdM:=rfl
theorem Zg8:mc.F Zbp=some ZdN:=rfl
theorem Zg9:mc.F Zbq=some ZdO:=rfl
theorem Zga:mc.F Zbr=some ZdP:=rfl
theorem Zgb:mc.F Zbs=some ZdQ:=rfl
theorem Zgc:mc.F Zbt=some ZdR:=rfl
theorem Zgd:mc.F Zbu=some ZdS:=rfl
theorem Zge:mc.F Zbv=some ZdT:=rfl
theorem Zgf:mc.F Zbw=some ZdU:=rfl
theorem Zgg:mc.F Zbx=some ZdV:=rfl
theorem Zgh:mc.F Zby=some ZdW:=rfl
theorem Zgi:mc.F Zbz=some ZdX:=rfl
theorem Zgj:mc.F ZbA=some ZdY:=rfl
theorem Zgk:mc.F ZbB=some ZdZ:=rfl
theorem Zgl:mc.F ZbC=some Zd_:=rfl
theorem Zgm:mc.F ZbD=some Ze0:=rfl
theorem Zgn:mc.F ZbE=some Ze1:=rfl
theorem Zgo:mc.F ZbF=some Ze2:=rfl
theorem Zgp:mc.F ZbG=some Ze3:=rfl
theorem Zgq:mc.F ZbH=some Ze4:=rfl
theorem Zgr:mc.F ZbI=some Ze5:=rfl
theorem Zgs:mc.F ZbJ=some Ze6:=rfl
theorem Zgt:mc.F ZbK=some Ze7:=rfl
theorem Zgu:mc.F ZbL=some Ze8:=rfl
theorem Zgv:mc.F ZbM=some Ze9:=rfl
theorem Zgw:mc.F ZbN=some Zea:=rfl
theorem Zgx:mc.F ZbO=some Zeb:=rfl
theorem Zgy:mc.F ZbP=some Zec:=rfl
theorem Zgz:mc.F ZbQ=some Zed:=rfl
theorem ZgA:mc.F ZbR=some Zee:=rfl
theorem ZgB:mc.F ZbS=some Zef:=rfl
theorem ZgC:mc.F ZbT=some Zeg:=rfl
theorem ZgD:mc.F ZbU=some Zeh:=rfl
theorem ZgE:mc.F ZbV=some Zei:=rfl
theorem ZgF:mc.F ZbW=some Zej:=rfl
theorem ZgG:mc.F ZbX=some Zek:=rfl
theorem ZgH:mc.F ZbY=some Zel:=rfl
theorem ZgI:mc.F ZbZ=some Zem:=rfl
theorem ZgJ:mc.F Zb_=some Zen:=rfl
theorem ZgK:mc.F Zc0=some Zeo:=rfl
theorem ZgL:mc.F Zc1=some Zep:=rfl
theorem ZgM:mc.F Zc2=some Zeq:=rfl
theorem ZgN:mc.F Zc3=some Zer:=rfl
theorem ZgO:mc.F Zc4=some Zes:=rfl
theorem ZgP:mc.F Zc5=some Zet:=rfl
theorem ZgQ:mc.F Zc6=some Zeu:=rfl
theorem ZgR:mc.F Zc7=some Zev:=rfl
theorem ZgS:mc.F Zc8=some Zew:=rfl
theorem ZgT:mc.F Zc9=some Zex:=rfl
theorem ZgU:mc.F Zca=some Zey:=rfl
theorem ZgV:mc.F Zcb=some Zez:=rfl
theorem ZgW:mc.F Zcc=some ZeA:=rfl
theorem ZgX:mc.F Zcd=some ZeB:=rfl
theorem ZgY:mc.F Zce=some ZeC:=rfl
theorem ZgZ:mc.F Zcf=some ZeD:=rfl
theorem Zg_:mc.F Zcg=some ZeE:=rfl
theorem Zh0:mc.F Zch=some ZeF:=rfl
theorem Zh1:mc.F Zci=some ZeG:=rfl
theorem Zh2:mc.F Zcj=some ZeH:=rfl
theorem Zh3:mc.F Zck=some ZeI:=rfl
theorem Zh4:mc.F Zcl=some ZeJ:=rfl
theorem Zh5:mc.F Zcm=some ZeK:=rfl
theorem Zh6:mc.F Zcn=some ZeL:=rfl
theorem Zh7:mc.F Zco=some ZeM:=rfl
theorem Zh8:mc.F Zcp=some ZeN:=rfl
theorem Zh9:mc.F Zcq=some ZeO:=rfl
theorem Zha:mc.F Zcr=some ZeP:=rfl
theorem Zhb:mc.F Zcs=some ZeQ:=rfl
theorem Zhc:mc.F Zct=some ZeR:=rfl
theorem Zhd:mc.F Zcu=some ZeS:=rfl
theorem Zhe:mc.F Zcv=some ZeT:=rfl
theorem Zhf:mc.F Zcw=some ZeU:=rfl
theorem Zhg:mc.F Zcx=some ZeV:=rfl
theorem Zhh:mc.F Zcy=some ZeW:=rfl
theorem Zhi:mc.F Zcz=some ZeX:=rfl
theorem Zhj:mc.F ZcA=some ZeY:=rfl
theorem Zhk:mc.F ZcB=some ZeZ:=rfl
theorem Zhl:mc.F ZcC=some Ze_:=rfl
theorem Zhm:mc.F ZcD=some Zf0:=rfl
theorem Zhn:mc.F ZcE=some Zf1:=rfl
theorem Zho:mc.F ZcF=some Zf2:=rfl
theorem Zhp:mc.F ZcG=some Zf3:=rfl
theorem Zhq:mc.F ZcH=some Zf4:=rfl
theorem Zhr:mc.F ZcI=some Zf5:=rfl
theorem Zhs:mc.F ZcJ=some Zf6:=rfl
theorem Zht:mc.F ZcK=some Zf7:=rfl
theorem Zhu:mc.F ZcL=some Zf8:=rfl
theorem Zhv:mc.F ZcM=some Zf9:=rfl
theorem Zhw:mc.F ZcN=some Zfa:=rfl
theorem Zhx:mc.F ZcO=some Zfb:=rfl
theorem Zhy:mc.F ZcP=some Zfc:=rfl
theorem Zhz:mc.F ZcQ=some Zfd:=rfl
theorem ZhA:mc.F ZcR=some Zfe:=rfl
theorem ZhB:mc.F ZcS=some Zff:=rfl
theorem ZhC:mc.F ZcT=some Zfg:=rfl
theorem ZhD:mc.F ZcU=some Zfh:=rfl
theorem ZhE:mc.F ZcV=some Zfi:=rfl
theorem ZhF:mc.F ZcW=some Zfj:=rfl
theorem ZhG:mc.F ZcX=some Zfk:=rfl
theorem ZhH:mc.F ZcY=some Zfl:=rfl
theorem ZhI:mc.F ZcZ=some Zfm:=rfl
theorem ZhJ:mc.F Zc_=some Zfn:=rfl
theorem ZhK:mc.F Zd0=some Zfo:=rfl
theorem ZhL:mc.F Zd1=some Zfp:=rfl
theorem ZhM:mc.F Zd2=some Zfq:=rfl
theorem ZhN:mc.F Zd3=some Zfr:=rfl
theorem ZhO:mc.F Zd4=some Zfs:=rfl
theorem ZhP:mc.F Zd5=some Zft:=rfl
theorem ZhQ:mc.F Zd6=some Zfu:=rfl
theorem ZhR:mc.F Zd7=some Zfv:=rfl
theorem ZhS:mc.F Zd8=some Zfw:=rfl
theorem ZhT:mc.F Zd9=some Zfx:=rfl
theorem ZhU:mc.F Zda=some Zfy:=rfl
theorem ZhV:mc.F Zdb=some Zfz:=rfl
theorem ZhW:mc.F Zdc=some ZfA:=rfl
theorem ZhX:mc.F Zdd=some ZfB:=rfl
theorem ZhY:mc.F Zde=some ZfC:=rfl
theorem ZhZ:mc.F Zdf=some ZfD:=rfl
theorem Zh_:mc.F Zdg=some ZfE:=rfl
theorem Zi0:mc.F Zdh=some ZfF:=rfl
theorem Zi1:mc.F Zdi=some ZfG:=rfl
theorem Zi2:mc.F Zdj=some ZfH:=rfl
theorem Zi3:mc.F Zdk=some ZfI:=rfl
theorem Zi4:mc.F Zdl=some ZfJ:=rfl
theorem Zi5:mc.F Zdm=some ZfK:=rfl
theorem Zi6:mc.F Zdn=some ZfL:=rfl
theorem Zi7:mc.F Zdo=some ZfM:=rfl
theorem Zi8:mc.F Zdp=some ZfN:=rfl
theorem Zi9:mc.F Zdq=some ZfO:=rfl
theorem Zia:mc.F Zdr=some ZfP:=rfl
theorem Zib:mc.F Zds=some ZfQ:=rfl
theorem Zic:mc.F Zdt=some ZfR:=rfl
theorem Zid:mc.F Zdu=some ZfS:=rfl
theorem Zie:mc.F Zdv=some ZfT:=rfl
theorem Zif:mc.F Zdw=some ZfU:=rfl
theorem Zig:mc.F Zdx=some ZfV:=rfl
theorem Zih:mc.F Zdy=some ZfW:=rfl
theorem Zii:mc.F Zdz=some ZfX:=rfl
theorem Zij:mc.F ZdA=some ZfY:=rfl
theorem Zik:mc.F ZdB=some ZfZ:=rfl
theorem Zil:mc.F ZdC=some Zf_:=rfl
theorem Zim:mc.F ZdD=some Zg0:=rfl
theorem Zin:mc.F ZdE=some Zg1:=rfl
theorem Zio:mc.F ZdF=some Zg2:=rfl
theorem Zip:mc.F ZdG=some Zg3:=rfl
theorem Ziq:mc.F ZdH=some Zg4:=rfl
theorem Zir:mc.F ZdI=some Zg5:=rfl
end Go.Proofs.YtdgpohclhppodaaGreat
