/- What the functions of the law come to, as trees; printed by a program; no condition. -/
import Derived.Test.YtknlennollmgeaaGreatSmLib4
namespace Go.Proofs.YtknlennollmgeaaGreat
open Go Go.Sm Go.Sm.Q
abbrev Zb5:Nat:=62
abbrev Zb6:Nat:=68
abbrev Zb7:Nat:=160
abbrev Zb8:Nat:=161
abbrev Zb9:Nat:=132
abbrev Zba:Nat:=75
abbrev Zbb:Nat:=88
abbrev Zbc:Nat:=31
abbrev Zbd:Nat:=95
abbrev Zbe:Nat:=39
abbrev Zbf:Nat:=59
abbrev Zbg:Nat:=22
abbrev Zbh:Nat:=80
abbrev Zbi:Nat:=43
abbrev Zbj:Nat:=100
abbrev Zbk:Nat:=188
abbrev Zbl:Nat:=189
abbrev Zbm:Nat:=180
abbrev Zbn:Nat:=166
abbrev Zbo:Nat:=134
abbrev Zbp:Nat:=143
abbrev Zbq:Nat:=101
abbrev Zbr:Nat:=171
abbrev Zbs:Nat:=172
abbrev Zbt:Nat:=142
abbrev Zbu:Nat:=99
abbrev Zbv:Nat:=79
abbrev Zbw:Nat:=41
abbrev Zbx:Nat:=42
abbrev Zby:Nat:=89
abbrev Zbz:Nat:=78
abbrev ZbA:Nat:=168
abbrev ZbB:Nat:=169
abbrev ZbC:Nat:=140
abbrev ZbD:Nat:=96
abbrev ZbE:Nat:=170
abbrev ZbF:Nat:=141
abbrev ZbG:Nat:=97
abbrev ZbH:Nat:=98
abbrev ZbI:Nat:=40
abbrev ZbJ:Nat:=9
abbrev ZbK:Nat:=81
abbrev ZbL:Nat:=84
abbrev ZbM:Nat:=51
abbrev ZbN:Nat:=181
abbrev ZbO:Nat:=167
abbrev ZbP:Nat:=137
abbrev ZbQ:Nat:=87
abbrev ZbR:Nat:=30
abbrev ZbS:Nat:=61
abbrev ZbT:Nat:=72
abbrev ZbU:Nat:=107
abbrev ZbV:Nat:=185
abbrev ZbW:Nat:=186
abbrev ZbX:Nat:=178
abbrev ZbY:Nat:=147
abbrev ZbZ:Nat:=123
abbrev Zb_:Nat:=148
abbrev Zc0:Nat:=106
abbrev Zc1:Nat:=190
abbrev Zc2:Nat:=182
abbrev Zc3:Nat:=174
abbrev Zc4:Nat:=192
abbrev Zc5:Nat:=47
abbrev Zc6:Nat:=145
abbrev Zc7:Nat:=73
abbrev Zc8:Nat:=104
abbrev Zc9:Nat:=176
abbrev Zca:Nat:=177
abbrev Zcb:Nat:=146
abbrev Zcc:Nat:=105
abbrev Zcd:Nat:=48
abbrev Zce:Nat:=150
abbrev Zcf:Nat:=151
abbrev Zcg:Nat:=149
abbrev Zch:Nat:=108
abbrev Zci:Nat:=63
abbrev Zcj:Nat:=109
abbrev Zck:Nat:=112
abbrev Zcl:Nat:=114
abbrev Zcm:Nat:=49
abbrev Zcn:Nat:=119
abbrev ZG:Nat:=57
abbrev Zco:Nat:=122
abbrev Zcp:Nat:=162
abbrev Zcq:Nat:=155
abbrev Zcr:Nat:=128
abbrev Zcs:Nat:=163
abbrev Zct:Nat:=164
abbrev Zcu:Nat:=129
abbrev Zcv:Nat:=70
abbrev Zcw:Nat:=158
abbrev Zcx:Nat:=159
abbrev Zcy:Nat:=127
abbrev Zcz:Nat:=187
abbrev ZcA:Nat:=179
abbrev ZcB:Nat:=154
abbrev ZcC:Nat:=120
abbrev ZcD:Nat:=121
abbrev ZcE:Nat:=56
abbrev ZcF:Nat:=58
abbrev ZcG:Nat:=125
abbrev ZcH:Nat:=126
abbrev ZcI:Nat:=124
abbrev ZcJ:Nat:=64
abbrev ZcK:Nat:=69
abbrev ZcL:Nat:=27
abbrev ZcM:Nat:=130
abbrev ZcN:Nat:=131
abbrev ZcO:Nat:=71
abbrev ZcP:Nat:=74
abbrev ZcQ:Nat:=28
abbrev ZcR:Nat:=77
abbrev ZcS:Nat:=165
abbrev ZcT:Nat:=133
abbrev ZcU:Nat:=76
abbrev ZcV:Nat:=90
abbrev ZcW:Nat:=91
abbrev ZcX:Nat:=32
abbrev ZcY:Nat:=29
abbrev ZcZ:Nat:=5
abbrev Zc_:Nat:=175
abbrev Zd0:Nat:=157
abbrev Zd1:Nat:=156
def Zd2:Tr:=.ite (ge (v I 0) (v I 1))
 (.ret [a (le (v I 0) (v I 2))])
 (.ret [a (k false)])
def Zd3:Tr:=.call Zb5 [a (v I 0),a (c (-9999)),a (c 9999)] 100256
 (.ite (v B 100256)
 (.call Zb5 [a (v I 1),a (v I 0),a (c 9999)] 100640
 (.ite (v B 100640)
 (.ite (lt (sub (v I 1) (v I 0)) (c 20))
 (.call Zb5 [a (v I 2),a (v I 0),a (v I 1)] 101728
 (.ret [a (v B 101728)]))
 (.ret [a (k false)]))
 (.ret [a (k false)])))
 (.ret [a (k false)]))
def Zd4:Tr:=.ret [a (eq (v I 0) (c 7))]
def Zd5:Tr:=.join
 (.ite (eq (v I 0) (c 0))
 (.call Zb5 [a (v I 1),a (c (-9999)),a (c 9999)] 100512
 (.ite (v B 100512)
 (.ite (eq (v I 2) (c 0))
 (.ite (eq (v I 3) (c 0))
 (.ret [a (c 1)])
 (.jump 0 [a (v (L I) 4),a (v I 5),a (v I 0),a (v I 1),a (v I 2),a (v I 3)]))
 (.jump 0 [a (v (L I) 4),a (v I 5),a (v I 0),a (v I 1),a (v I 2),a (v I 3)]))
 (.jump 0 [a (v (L I) 4),a (v I 5),a (v I 0),a (v I 1),a (v I 2),a (v I 3)])))
 (.jump 0 [a (v (L I) 4),a (v I 5),a (v I 0),a (v I 1),a (v I 2),a (v I 3)]))
 (.join
 (.ite (eq (v I 2) (c 1))
 (.call Zb5 [a (v I 3),a (c 0),a (sub (v I 1) (c 1))] 519
 (.ite (v B 519)
 (.ite (eq (v I 4) (c 0))
 (.ite (eq (v I 5) (c 0))
 (.ret [a (c 1)])
 (.jump 0 [a (v (L I) 0),a (v I 2),a (v I 3),a (v I 4),a (v I 5)]))
 (.jump 0 [a (v (L I) 0),a (v I 2),a (v I 3),a (v I 4),a (v I 5)]))
 (.jump 0 [a (v (L I) 0),a (v I 2),a (v I 3),a (v I 4),a (v I 5)])))
 (.jump 0 [a (v (L I) 0),a (v I 2),a (v I 3),a (v I 4),a (v I 5)]))
 (.call Zb5 [a (v I 1),a (c 2),a (c 9)] 134
 (.ite (nt (v B 134))
 (.ret [a (c 0)])
 (.ite (ne (v I 2) (c 0))
 (.ret [a (c 0)])
 (.call Zb5 [a (v I 3),a (c 0),a (sub (ln (v (L I) 0)) (c 1))] 966
 (.ite (nt (v B 966))
 (.ret [a (c 0)])
 (.call Zb5 [a (v I 4),a (c 0),a (sub (ln (v (L I) 0)) (c 1))] 1542
 (.ite (nt (v B 1542))
 (.ret [a (c 0)])
 (.join
 (.ite (ge (v I 1) (c 7))
 (.jump 0 [a (v (L I) 0),a (c 2),a (v I 1),a (v I 2),a (v I 3),a (v I 4)])
 (.jump 0 [a (v (L I) 0),a (c 1),a (v I 1),a (v I 2),a (v I 3),a (v I 4)]))
 (.join
 (.guard (le (c 0) (v I 4))
 (.guard (lt (v I 4) (ln (v (L I) 0)))
 (.ite (ne (ix (v (L I) 0) (v I 4)) (v I 1))
 (.ret [a (c 0)])
 (.guard (le (c 0) (v I 5))
 (.guard (lt (v I 5) (ln (v (L I) 0)))
 (.ite (ne (ix (v (L I) 0) (v I 5)) (v I 1))
 (.ret [a (c 0)])
 (.call Zb7 [a (v I 2)] 1223
 (.ite (v B 1223)
 (.ite (ne (v I 5) (v I 4))
 (.ret [a (c 0)])
 (.jump 0 [a (v I 2),a (v I 3),a (v I 4),a (v I 5)]))
 (.jump 0 [a (v I 2),a (v I 3),a (v I 4),a (v I 5)])))))))))
 (.ite (ge (v I 0) (c 5))
 (.ret [a (c 2)])
 (.ret [a (c 1)]))))))))))))
def Zd6:Tr:=.call Zb5 [a (v I 1),a (c 0),a (c 5)] 100128
 (.ite (nt (v B 100128))
 (.ret [a (nl I)])
 (.call Zb5 [a (ln (v (L T4) 0)),a (c 1),a (c 40)] 100448
 (.ite (nt (v B 100448))
 (.ret [a (nl I)])
 (.loop [a (v (L T4) 0),a (v I 1),a (c 0),a (nl I)]
 (.ite (lt (v I 2) (ln (v (L T4) 0)))
 (.guard (le (c 0) (v I 2))
 (.guard (lt (v I 2) (ln (v (L T4) 0)))
 (.call Zb8 [a (f (ix (v (L T4) 0) (v I 2))),a (f (s (ix (v (L T4) 0) (v I 2)))),a (f (s (s (ix (v (L T4) 0) (v I 2))))),a (s (s (s (ix (v (L T4) 0) (v I 2))))),a (v (L I) 3),a (v I 1)] 645
 (.ite (eq (v I 645) (c 0))
 (.ret [a (nl I)])
 (.guard (le (ln (v (L I) 3)) (c 549755813888))
 (.guard (le (ln (one (v I 645))) (c 549755813888))
 (.jump 0 [a (v (L T4) 0),a (v I 1),a (add (v I 2) (c 1)),a (app (v (L I) 3) (one (v I 645)))])))))))
 (.ret [a (v (L I) 3)]))))))
def Zd7:Tr:=.call Zb9 [a (v (L T4) 0),a (v I 1)] 100192
 (.ite (gt (ln (v (L I) 100192)) (c 0))
 (.guard (le (c 0) (sub (ln (v (L I) 100192)) (c 1)))
 (.guard (lt (sub (ln (v (L I) 100192)) (c 1)) (ln (v (L I) 100192)))
 (.ret [a (eq (ix (v (L I) 100192) (sub (ln (v (L I) 100192)) (c 1))) (v I 2))])))
 (.ret [a (k false)]))
def Zd8:Tr:=.call Zba [a (v (L T4) 0),a (v I 3),a (c 2)] 100320
 (.ite (nt (v B 100320))
 (.ret [a (k false)])
 (.ite (ne (ln (v (L I) 1)) (ln (v (L (L T4)) 2)))
 (.ret [a (k false)])
 (.ite (gt (ln (v (L I) 1)) (v I 3))
 (.ret [a (k false)])
 (.loop [a (v I 3),a (c 0),a (v (L T4) 0),a (v (L I) 1),a (v (L (L T4)) 2)]
 (.ite (lt (v I 1) (ln (v (L I) 3)))
 (.join
 (.guard (le (c 0) (v I 1))
 (.guard (lt (v I 1) (ln (v (L I) 3)))
 (.call Zb5 [a (ix (v (L I) 3) (v I 1)),a (c 0),a (sub (v I 0) (c 1))] 774
 (.ite (nt (v B 774))
 (.ret [a (k false)])
 (.ite (gt (v I 1) (c 0))
 (.guard (le (c 0) (v I 1))
 (.guard (lt (v I 1) (ln (v (L I) 3)))
 (.guard (le (c 0) (sub (v I 1) (c 1)))
 (.guard (lt (sub (v I 1) (c 1)) (ln (v (L I) 3)))
 (.ite (le (ix (v (L I) 3) (v I 1)) (ix (v (L I) 3) (sub (v I 1) (c 1))))
 (.ret [a (k false)])
 (.guard (le (c 0) (v I 1))
 (.guard (lt (v I 1) (ln (v (L (L T4)) 4)))
 (.call Zba [a (ix (v (L (L T4)) 4) (v I 1)),a (v I 0),a (c 1)] 2502
 (.ite (nt (v B 2502))
 (.ret [a (k false)])
 (.jump 0 [a (v I 0),a (v I 1),a (v (L T4) 2),a (v (L I) 3),a (v (L (L T4)) 4)]))))))))))
 (.guard (le (c 0) (v I 1))
 (.guard (lt (v I 1) (ln (v (L (L T4)) 4)))
 (.call Zba [a (ix (v (L (L T4)) 4) (v I 1)),a (v I 0),a (c 1)] 2502
 (.ite (nt (v B 2502))
 (.ret [a (k false)])
 (.jump 0 [a (v I 0),a (v I 1),a (v (L T4) 2),a (v (L I) 3),a (v (L (L T4)) 4)]))))))))))
 (.jump 0 [a (v I 0),a (add (v I 1) (c 1)),a (v (L T4) 2),a (v (L I) 3),a (v (L (L T4)) 4)]))
 (.ret [a (k true)]))))))
def Zd9:Tr:=.call Zb5 [a (ln (v (L V3) 0)),a (c 1),a (c 5)] 100320
 (.ite (nt (v B 100320))
 (.ret [a (k false)])
 (.ite (gt (ln (v (L TR) 1)) (c 8))
 (.ret [a (k false)])
 (.loop [a (c 1),a (c 0),a (v (L V3) 0),a (v (L TR) 1)]
 (.ite (lt (v I 1) (ln (v (L V3) 2)))
 (.guard (le (c 0) (v I 1))
 (.guard (lt (v I 1) (ln (v (L V3) 2)))
 (.call Zb6 [a (f (ix (v (L V3) 2) (v I 1))),a (f (s (ix (v (L V3) 2) (v I 1)))),a (s (s (ix (v (L V3) 2) (v I 1))))] 645
 (.ite (nt (v B 645))
 (.ret [a (k false)])
 (.guard (le (c 0) (v I 1))
 (.guard (lt (v I 1) (ln (v (L V3) 2)))
 (.guard (le (c 0) (v I 1))
 (.guard (lt (v I 1) (ln (v (L V3) 2)))
 (.jump 0 [a (mul (v I 0) (add (sub (f (s (ix (v (L V3) 2) (v I 1)))) (f (ix (v (L V3) 2) (v I 1)))) (c 1))),a (add (v I 1) (c 1)),a (v (L V3) 2),a (v (L TR) 3)])))))))))
 (.loop [a (v I 0),a (c 0),a (v (L V3) 2),a (v (L TR) 3)]
 (.ite (lt (v I 1) (ln (v (L TR) 3)))
 (.guard (le (c 0) (v I 1))
 (.guard (lt (v I 1) (ln (v (L TR) 3)))
 (.call Zbb [a (f (ix (v (L TR) 3) (v I 1))),a (f (s (ix (v (L TR) 3) (v I 1)))),a (s (s (ix (v (L TR) 3) (v I 1)))),a (ln (v (L V3) 2))] 837
 (.ite (nt (v B 837))
 (.ret [a (k false)])
 (.jump 0 [a (v I 0),a (add (v I 1) (c 1)),a (v (L V3) 2),a (v (L TR) 3)])))))
 (.ret [a (le (v I 0) (c 400))])))))))
def Zda:Tr:=.loop [a (v (L I) 2),a (c 0),a (v (L V3) 0),a (v (L TR) 1)]
 (.ite (lt (v I 1) (ln (v (L I) 0)))
 (.join
 (.guard (le (c 0) (v I 1))
 (.guard (lt (v I 1) (ln (v (L I) 0)))
 (.call Zb5 [a (ix (v (L I) 0) (v I 1)),a (c 0),a (sub (ln (v (L TR) 3)) (c 1))] 773
 (.ite (nt (v B 773))
 (.ret [a (k false)])
 (.ite (gt (v I 1) (c 0))
 (.guard (le (c 0) (v I 1))
 (.guard (lt (v I 1) (ln (v (L I) 0)))
 (.guard (le (c 0) (sub (v I 1) (c 1)))
 (.guard (lt (sub (v I 1) (c 1)) (ln (v (L I) 0)))
 (.ite (le (ix (v (L I) 0) (v I 1)) (ix (v (L I) 0) (sub (v I 1) (c 1))))
 (.ret [a (k false)])
 (.jump 0 [a (v (L I) 0),a (v I 1),a (v (L V3) 2),a (v (L TR) 3)]))))))
 (.jump 0 [a (v (L I) 0),a (v I 1),a (v (L V3) 2),a (v (L TR) 3)]))))))
 (.jump 0 [a (v (L I) 0),a (add (v I 1) (c 1)),a (v (L V3) 2),a (v (L TR) 3)]))
 (.call Zbc [a (v (L V3) 2),a (v (L TR) 3)] 325
 (.ret [a (v B 325)])))
def Zdb:Tr:=.call Zbd [a (v (L V3) 0),a (v (L TR) 1),a (v (L I) 2)] 100256
 (.ite (v B 100256)
 (.call Zbd [a (v (L V3) 0),a (v (L TR) 1),a (v (L I) 3)] 100512
 (.ret [a (v B 100512)]))
 (.ret [a (k false)]))
def Zdc:Tr:=.call Zbc [a (v (L V3) 0),a (v (L TR) 1)] 100192
 (.ite (nt (v B 100192))
 (.ret [a (c 0)])
 (.loop [a (c 1),a (c 0),a (v (L V3) 0),a (v (L TR) 1)]
 (.ite (lt (v I 1) (ln (v (L V3) 2)))
 (.guard (le (c 0) (v I 1))
 (.guard (lt (v I 1) (ln (v (L V3) 2)))
 (.guard (le (c 0) (v I 1))
 (.guard (lt (v I 1) (ln (v (L V3) 2)))
 (.jump 0 [a (mul (v I 0) (add (sub (f (s (ix (v (L V3) 2) (v I 1)))) (f (ix (v (L V3) 2) (v I 1)))) (c 1))),a (add (v I 1) (c 1)),a (v (L V3) 2),a (v (L TR) 3)])))))
 (.ret [a (v I 0)]))))
def Zdd:Tr:=.call Zbf [a (v (L V3) 0),a (v (L TR) 1)] 100192
 (.loop [a (v (L I) 2),a (v I 100192),a (c 0)]
 (.ite (lt (v I 2) (ln (v (L I) 0)))
 (.join
 (.guard (le (c 0) (v I 2))
 (.guard (lt (v I 2) (ln (v (L I) 0)))
 (.call Zb5 [a (ix (v (L I) 0) (v I 2)),a (c 0),a (sub (v I 1) (c 1))] 643
 (.ite (nt (v B 643))
 (.ret [a (k false)])
 (.ite (gt (v I 2) (c 0))
 (.guard (le (c 0) (v I 2))
 (.guard (lt (v I 2) (ln (v (L I) 0)))
 (.guard (le (c 0) (sub (v I 2) (c 1)))
 (.guard (lt (sub (v I 2) (c 1)) (ln (v (L I) 0)))
 (.ite (le (ix (v (L I) 0) (v I 2)) (ix (v (L I) 0) (sub (v I 2) (c 1))))
 (.ret [a (k false)])
 (.jump 0 [a (v (L I) 0),a (v I 1),a (v I 2)]))))))
 (.jump 0 [a (v (L I) 0),a (v I 1),a (v I 2)]))))))
 (.jump 0 [a (v (L I) 0),a (v I 1),a (add (v I 2) (c 1))]))
 (.ret [a (gt (v I 1) (c 0))])))
def Zde:Tr:=.join
 (.loop [a (c 0),a (v (L V3) 0),a (v (L TR) 1),a (nl I)]
 (.ite (lt (v I 0) (ln (v (L V3) 1)))
 (.call Zbc [a (v (L V3) 1),a (v (L TR) 2)] 454
 (.ite (v B 454)
 (.guard (le (c 0) (v I 0))
 (.guard (lt (v I 0) (ln (v (L V3) 1)))
 (.guard (le (ln (v (L I) 3)) (c 549755813888))
 (.guard (le (ln (one (s (s (ix (v (L V3) 1) (v I 0)))))) (c 549755813888))
 (.jump 0 [a (add (v I 0) (c 1)),a (v (L V3) 1),a (v (L TR) 2),a (app (v (L I) 3) (one (s (s (ix (v (L V3) 1) (v I 0))))))])))))
 (.jump 1 [a (v (L I) 3)])))
 (.jump 1 [a (v (L I) 3)])))
 (.ret [a (v (L I) 0)])
def Zdf:Tr:=.loop [a (v (L I) 0),a (c 0),a (nl I)]
 (.ite (lt (v I 1) (ln (v (L I) 0)))
 (.guard (le (c 0) (v I 1))
 (.guard (lt (v I 1) (ln (v (L I) 0)))
 (.guard (le (ln (v (L I) 2)) (c 549755813888))
 (.guard (le (ln (one (ix (v (L I) 0) (v I 1)))) (c 549755813888))
 (.jump 0 [a (v (L I) 0),a (add (v I 1) (c 1)),a (app (v (L I) 2) (one (ix (v (L I) 0) (v I 1))))])))))
 (.ret [a (v (L I) 2)]))
def Zdg:Tr:=.call Zbh [a (v (L V3) 0),a (v (L TR) 1)] 100192
 (.call Zbi [a (v (L I) 100192)] 100256
 (.loop [a (v I 2),a (sub (ln (v (L V3) 0)) (c 1)),a (v (L V3) 0),a (v (L TR) 1),a (v (L I) 100256)]
 (.ite (ge (v I 1) (c 0))
 (.guard (le (c 0) (v I 1))
 (.guard (lt (v I 1) (ln (v (L V3) 2)))
 (.guard (le (c 0) (v I 1))
 (.guard (lt (v I 1) (ln (v (L V3) 2)))
 (.guard (le (c 0) (v I 1))
 (.guard (lt (v I 1) (ln (v (L V3) 2)))
 (.guard (ne (add (sub (f (s (ix (v (L V3) 2) (v I 1)))) (f (ix (v (L V3) 2) (v I 1)))) (c 1)) (c 0))
 (.guard (le (c 0) (v I 1))
 (.guard (lt (v I 1) (ln (v (L I) 4)))
 (.guard (ne (add (sub (f (s (ix (v (L V3) 2) (v I 1)))) (f (ix (v (L V3) 2) (v I 1)))) (c 1)) (c 0))
 (.jump 0 [a (quo (v I 0) (add (sub (f (s (ix (v (L V3) 2) (v I 1)))) (f (ix (v (L V3) 2) (v I 1)))) (c 1))),a (sub (v I 1) (c 1)),a (v (L V3) 2),a (v (L TR) 3),a (st (v (L I) 4) (v I 1) (add (f (ix (v (L V3) 2) (v I 1))) (rem (v I 0) (add (sub (f (s (ix (v (L V3) 2) (v I 1)))) (f (ix (v (L V3) 2) (v I 1)))) (c 1)))))])))))))))))
 (.ret [a (v (L I) 4)]))))
def Zdh:Tr:=.ite (gt (v I 0) (c 9999))
 (.ret [a (c 9999)])
 (.ite (lt (v I 0) (c (-9999)))
 (.ret [a (c (-9999))])
 (.ret [a (v I 0)]))
def Zdi:Tr:=.ite (v B 0)
 (.ret [a (c 1)])
 (.ret [a (c 0)])
def Zdj:Tr:=.ite (eq (v I 0) (c 2))
 (.call Zbk [a (add (v I 1) (v I 2))] 100384
 (.ret [a (v I 100384)]))
 (.ite (eq (v I 0) (c 3))
 (.call Zbk [a (sub (v I 1) (v I 2))] 100512
 (.ret [a (v I 100512)]))
 (.ite (eq (v I 0) (c 4))
 (.call Zbk [a (mul (v I 1) (v I 2))] 100640
 (.ret [a (v I 100640)]))
 (.ite (eq (v I 0) (c 5))
 (.call Zbl [a (lt (v I 1) (v I 2))] 100768
 (.ret [a (v I 100768)]))
 (.ite (eq (v I 0) (c 6))
 (.call Zbl [a (eq (v I 1) (v I 2))] 100896
 (.ret [a (v I 100896)]))
 (.ite (eq (v I 0) (c 7))
 (.ret [a (sub (c 1) (v I 1))])
 (.ite (eq (v I 0) (c 8))
 (.ret [a (mul (v I 1) (v I 2))])
 (.call Zbl [a (gt (add (v I 1) (v I 2)) (c 0))] 101216
 (.ret [a (v I 101216)]))))))))
def Zdk:Tr:=.loop [a (v (L T4) 0),a (v (L I) 1),a (c 0),a (nl I)]
 (.ite (lt (v I 2) (ln (v (L T4) 0)))
 (.join
 (.guard (le (c 0) (v I 2))
 (.guard (lt (v I 2) (ln (v (L T4) 0)))
 (.ite (eq (f (ix (v (L T4) 0) (v I 2))) (c 0))
 (.guard (le (ln (v (L I) 3)) (c 549755813888))
 (.guard (le (ln (one (f (s (ix (v (L T4) 0) (v I 2)))))) (c 549755813888))
 (.jump 0 [a (v (L T4) 0),a (v (L I) 1),a (v I 2),a (app (v (L I) 3) (one (f (s (ix (v (L T4) 0) (v I 2))))))])))
 (.ite (eq (f (ix (v (L T4) 0) (v I 2))) (c 1))
 (.guard (le (c 0) (f (s (ix (v (L T4) 0) (v I 2)))))
 (.guard (lt (f (s (ix (v (L T4) 0) (v I 2)))) (ln (v (L I) 1)))
 (.guard (le (ln (v (L I) 3)) (c 549755813888))
 (.guard (le (ln (one (ix (v (L I) 1) (f (s (ix (v (L T4) 0) (v I 2))))))) (c 549755813888))
 (.jump 0 [a (v (L T4) 0),a (v (L I) 1),a (v I 2),a (app (v (L I) 3) (one (ix (v (L I) 1) (f (s (ix (v (L T4) 0) (v I 2)))))))])))))
 (.guard (le (c 0) (f (s (s (ix (v (L T4) 0) (v I 2))))))
 (.guard (lt (f (s (s (ix (v (L T4) 0) (v I 2))))) (ln (v (L I) 3)))
 (.guard (le (c 0) (s (s (s (ix (v (L T4) 0) (v I 2))))))
 (.guard (lt (s (s (s (ix (v (L T4) 0) (v I 2))))) (ln (v (L I) 3)))
 (.call Zbm [a (f (ix (v (L T4) 0) (v I 2))),a (ix (v (L I) 3) (f (s (s (ix (v (L T4) 0) (v I 2)))))),a (ix (v (L I) 3) (s (s (s (ix (v (L T4) 0) (v I 2))))))] 1861
 (.guard (le (ln (v (L I) 3)) (c 549755813888))
 (.guard (le (ln (one (v I 1861))) (c 549755813888))
 (.jump 0 [a (v (L T4) 0),a (v (L I) 1),a (v I 2),a (app (v (L I) 3) (one (v I 1861)))]))))))))))))
 (.jump 0 [a (v (L T4) 0),a (v (L I) 1),a (add (v I 2) (c 1)),a (v (L I) 3)]))
 (.ret [a (v (L I) 3)]))
def Zdl:Tr:=.call Zbn [a (v (L T4) 0),a (v (L I) 1)] 100192
 (.guard (le (c 0) (sub (ln (v (L T4) 0)) (c 1)))
 (.guard (lt (sub (ln (v (L T4) 0)) (c 1)) (ln (v (L I) 100192)))
 (.ret [a (ix (v (L I) 100192) (sub (ln (v (L T4) 0)) (c 1)))])))
def Zdm:Tr:=.ite (ne (ln (v (L I) 2)) (ln (v (L V3) 0)))
 (.ret [a (k false)])
 (.loop [a (v (L I) 2),a (c 0),a (v (L V3) 0),a (v (L TR) 1)]
 (.ite (lt (v I 1) (ln (v (L I) 0)))
 (.guard (le (c 0) (v I 1))
 (.guard (lt (v I 1) (ln (v (L I) 0)))
 (.guard (le (c 0) (v I 1))
 (.guard (lt (v I 1) (ln (v (L V3) 2)))
 (.guard (le (c 0) (v I 1))
 (.guard (lt (v I 1) (ln (v (L V3) 2)))
 (.call Zb5 [a (ix (v (L I) 0) (v I 1)),a (f (ix (v (L V3) 2) (v I 1))),a (f (s (ix (v (L V3) 2) (v I 1))))] 1285
 (.ite (nt (v B 1285))
 (.ret [a (k false)])
 (.jump 0 [a (v (L I) 0),a (add (v I 1) (c 1)),a (v (L V3) 2),a (v (L TR) 3)])))))))))
 (.ret [a (k true)])))
def Zdn:Tr:=.guard (le (c 0) (v I 3))
 (.guard (lt (v I 3) (ln (v (L TR) 1)))
 (.call Zbo [a (f (ix (v (L TR) 1) (v I 3))),a (v (L I) 2)] 100768
 (.ite (eq (v I 100768) (c 0))
 (.ret [a (nl I)])
 (.loop [a (v (L I) 2),a (c 0),a (v (L V3) 0),a (v (L TR) 1),a (f (ix (v (L TR) 1) (v I 3))),a (f (s (ix (v (L TR) 1) (v I 3)))),a (s (s (ix (v (L TR) 1) (v I 3)))),a (nl I)]
 (.ite (lt (v I 1) (ln (v (L I) 0)))
 (.guard (le (c 0) (v I 1))
 (.guard (lt (v I 1) (ln (v (L I) 0)))
 (.guard (le (ln (v (L I) 7)) (c 549755813888))
 (.guard (le (ln (one (ix (v (L I) 0) (v I 1)))) (c 549755813888))
 (.jump 0 [a (v (L I) 0),a (add (v I 1) (c 1)),a (v (L V3) 2),a (v (L TR) 3),a (v (L T4) 4),a (v (L I) 5),a (v (L (L T4)) 6),a (app (v (L I) 7) (one (ix (v (L I) 0) (v I 1))))])))))
 (.loop [a (v (L I) 0),a (c 0),a (v (L V3) 2),a (v (L TR) 3),a (v (L T4) 4),a (v (L I) 5),a (v (L (L T4)) 6),a (v (L I) 7)]
 (.ite (lt (v I 1) (ln (v (L I) 5)))
 (.guard (le (c 0) (v I 1))
 (.guard (lt (v I 1) (ln (v (L I) 5)))
 (.guard (le (c 0) (v I 1))
 (.guard (lt (v I 1) (ln (v (L (L T4)) 6)))
 (.call Zbo [a (ix (v (L (L T4)) 6) (v I 1)),a (v (L I) 0)] 1099
 (.guard (le (c 0) (ix (v (L I) 5) (v I 1)))
 (.guard (lt (ix (v (L I) 5) (v I 1)) (ln (v (L I) 7)))
 (.jump 0 [a (v (L I) 0),a (add (v I 1) (c 1)),a (v (L V3) 2),a (v (L TR) 3),a (v (L T4) 4),a (v (L I) 5),a (v (L (L T4)) 6),a (st (v (L I) 7) (ix (v (L I) 5) (v I 1)) (v I 1099))]))))))))
 (.call Zbp [a (v (L V3) 2),a (v (L TR) 3),a (v (L I) 7)] 459
 (.ite (nt (v B 459))
 (.ret [a (nl I)])
 (.ret [a (v (L I) 7)]))))))))))
def Zdo:Tr:=.ite (ne (ln (v (L I) 0)) (ln (v (L I) 1)))
 (.ret [a (k false)])
 (.loop [a (v (L I) 0),a (v (L I) 1),a (c 0)]
 (.ite (lt (v I 2) (ln (v (L I) 0)))
 (.guard (le (c 0) (v I 2))
 (.guard (lt (v I 2) (ln (v (L I) 0)))
 (.guard (le (c 0) (v I 2))
 (.guard (lt (v I 2) (ln (v (L I) 1)))
 (.ite (ne (ix (v (L I) 0) (v I 2)) (ix (v (L I) 1) (v I 2)))
 (.ret [a (k false)])
 (.jump 0 [a (v (L I) 0),a (v (L I) 1),a (add (v I 2) (c 1))]))))))
 (.ret [a (k true)])))
def Zdp:Tr:=.join
 (.loop [a (v (L I) 0),a (v (L I) 1),a (c 0)]
 (.ite (lt (v I 2) (ln (v (L I) 0)))
 (.ite (lt (v I 2) (ln (v (L I) 1)))
 (.guard (le (c 0) (v I 2))
 (.guard (lt (v I 2) (ln (v (L I) 0)))
 (.guard (le (c 0) (v I 2))
 (.guard (lt (v I 2) (ln (v (L I) 1)))
 (.ite (ne (ix (v (L I) 0) (v I 2)) (ix (v (L I) 1) (v I 2)))
 (.guard (le (c 0) (v I 2))
 (.guard (lt (v I 2) (ln (v (L I) 0)))
 (.guard (le (c 0) (v I 2))
 (.guard (lt (v I 2) (ln (v (L I) 1)))
 (.ret [a (lt (ix (v (L I) 0) (v I 2)) (ix (v (L I) 1) (v I 2)))])))))
 (.jump 0 [a (v (L I) 0),a (v (L I) 1),a (add (v I 2) (c 1))]))))))
 (.jump 1 [a (v (L I) 0),a (v (L I) 1)]))
 (.jump 1 [a (v (L I) 0),a (v (L I) 1)])))
 (.ret [a (lt (ln (v (L I) 0)) (ln (v (L I) 1)))])
def Zdq:Tr:=.loop [a (v (L (L I)) 0),a (v (L I) 1),a (k false),a (c 0),a (nl (L I))]
 (.ite (lt (v I 3) (ln (v (L (L I)) 0)))
 (.join
 (.ite (nt (v B 2))
 (.guard (le (c 0) (v I 3))
 (.guard (lt (v I 3) (ln (v (L (L I)) 0)))
 (.call Zbr [a (ix (v (L (L I)) 0) (v I 3)),a (v (L I) 1)] 774
 (.ite (v B 774)
 (.jump 0 [a (v (L (L I)) 0),a (v (L I) 1),a (k true),a (v I 3),a (v (L (L I)) 4)])
 (.jump 0 [a (v (L (L I)) 0),a (v (L I) 1),a (v B 2),a (v I 3),a (v (L (L I)) 4)])))))
 (.jump 0 [a (v (L (L I)) 0),a (v (L I) 1),a (v B 2),a (v I 3),a (v (L (L I)) 4)]))
 (.join
 (.ite (nt (v B 2))
 (.guard (le (c 0) (v I 3))
 (.guard (lt (v I 3) (ln (v (L (L I)) 0)))
 (.call Zbs [a (v (L I) 1),a (ix (v (L (L I)) 0) (v I 3))] 518
 (.ite (v B 518)
 (.guard (le (ln (v (L (L I)) 4)) (c 549755813888))
 (.guard (le (ln (one (v (L I) 1))) (c 549755813888))
 (.jump 0 [a (v (L (L I)) 0),a (v (L I) 1),a (k true),a (v I 3),a (app (v (L (L I)) 4) (one (v (L I) 1)))])))
 (.jump 0 [a (v (L (L I)) 0),a (v (L I) 1),a (v B 2),a (v I 3),a (v (L (L I)) 4)])))))
 (.jump 0 [a (v (L (L I)) 0),a (v (L I) 1),a (v B 2),a (v I 3),a (v (L (L I)) 4)]))
 (.guard (le (c 0) (v I 3))
 (.guard (lt (v I 3) (ln (v (L (L I)) 0)))
 (.guard (le (ln (v (L (L I)) 4)) (c 549755813888))
 (.guard (le (ln (one (ix (v (L (L I)) 0) (v I 3)))) (c 549755813888))
 (.jump 0 [a (v (L (L I)) 0),a (v (L I) 1),a (v B 2),a (add (v I 3) (c 1)),a (app (v (L (L I)) 4) (one (ix (v (L (L I)) 0) (v I 3))))])))))))
 (.join
 (.ite (nt (v B 2))
 (.guard (le (ln (v (L (L I)) 4)) (c 549755813888))
 (.guard (le (ln (one (v (L I) 1))) (c 549755813888))
 (.jump 0 [a (app (v (L (L I)) 4) (one (v (L I) 1)))])))
 (.jump 0 [a (v (L (L I)) 4)]))
 (.ret [a (v (L (L I)) 0)])))
def Zdr:Tr:=.loop [a (v (L I) 2),a (c 0),a (v (L V3) 0),a (v (L TR) 1),a (nl (L I))]
 (.ite (lt (v I 1) (ln (v (L TR) 3)))
 (.join
 (.call Zbq [a (v (L V3) 2),a (v (L TR) 3),a (v (L I) 0),a (v I 1)] 519
 (.ite (gt (ln (v (L I) 519)) (c 0))
 (.call Zbt [a (v (L (L I)) 4),a (v (L I) 519)] 967
 (.jump 0 [a (v (L I) 0),a (v I 1),a (v (L V3) 2),a (v (L TR) 3),a (v (L (L I)) 967)]))
 (.jump 0 [a (v (L I) 0),a (v I 1),a (v (L V3) 2),a (v (L TR) 3),a (v (L (L I)) 4)])))
 (.jump 0 [a (v (L I) 0),a (add (v I 1) (c 1)),a (v (L V3) 2),a (v (L TR) 3),a (v (L (L I)) 4)]))
 (.ret [a (v (L (L I)) 4)]))
def Zds:Tr:=.loop [a (v (L I) 2),a (c 0),a (c 0),a (v (L V3) 0),a (v (L TR) 1)]
 (.ite (lt (v I 2) (ln (v (L I) 0)))
 (.guard (le (c 0) (v I 2))
 (.guard (lt (v I 2) (ln (v (L V3) 3)))
 (.guard (le (c 0) (v I 2))
 (.guard (lt (v I 2) (ln (v (L V3) 3)))
 (.guard (le (c 0) (v I 2))
 (.guard (lt (v I 2) (ln (v (L I) 0)))
 (.guard (le (c 0) (v I 2))
 (.guard (lt (v I 2) (ln (v (L V3) 3)))
 (.jump 0 [a (v (L I) 0),a (sub (add (mul (v I 1) (add (sub (f (s (ix (v (L V3) 3) (v I 2)))) (f (ix (v (L V3) 3) (v I 2)))) (c 1))) (ix (v (L I) 0) (v I 2))) (f (ix (v (L V3) 3) (v I 2)))),a (add (v I 2) (c 1)),a (v (L V3) 3),a (v (L TR) 4)])))))))))
 (.ret [a (v I 1)]))
def Zdt:Tr:=.loop [a (c 0),a (v (L V3) 0),a (v (L TR) 1),a (nl (L I))]
 (.call Zbf [a (v (L V3) 1),a (v (L TR) 2)] 134
 (.ite (lt (v I 0) (v I 134))
 (.call Zbj [a (v (L V3) 1),a (v (L TR) 2),a (v I 0)] 454
 (.call Zbu [a (v (L V3) 1),a (v (L TR) 2),a (v (L I) 454)] 518
 (.loop [a (v I 0),a (c 0),a (v (L V3) 1),a (v (L TR) 2),a (v (L (L I)) 3),a (v (L (L I)) 518),a (nl I)]
 (.ite (lt (v I 1) (ln (v (L (L I)) 5)))
 (.guard (le (c 0) (v I 1))
 (.guard (lt (v I 1) (ln (v (L (L I)) 5)))
 (.call Zbv [a (v (L V3) 2),a (v (L TR) 3),a (ix (v (L (L I)) 5) (v I 1))] 651
 (.guard (le (ln (v (L I) 6)) (c 549755813888))
 (.guard (le (ln (one (v I 651))) (c 549755813888))
 (.jump 0 [a (v I 0),a (add (v I 1) (c 1)),a (v (L V3) 2),a (v (L TR) 3),a (v (L (L I)) 4),a (v (L (L I)) 5),a (app (v (L I) 6) (one (v I 651)))]))))))
 (.guard (le (ln (v (L (L I)) 4)) (c 549755813888))
 (.guard (le (ln (one (v (L I) 6))) (c 549755813888))
 (.jump 1 [a (add (v I 0) (c 1)),a (v (L V3) 2),a (v (L TR) 3),a (app (v (L (L I)) 4) (one (v (L I) 6)))])))))))
 (.ret [a (v (L (L I)) 3)])))
def Zdu:Tr:=.loop [a (c 0),a (v (L V3) 0),a (v (L TR) 1),a (nl (L B))]
 (.ite (lt (v I 0) (ln (v (L TR) 2)))
 (.call Zbf [a (v (L V3) 1),a (v (L TR) 2)] 390
 (.guard (le (c 0) (v I 390))
 (.guard (le (v I 390) (c 549755813888))
 (.loop [a (v I 0),a (c 0),a (v (L V3) 1),a (v (L TR) 2),a (v (L (L B)) 3),a (rep (v I 390) (z B))]
 (.ite (lt (v I 1) (ln (v (L B) 5)))
 (.call Zbj [a (v (L V3) 2),a (v (L TR) 3),a (v I 1)] 649
 (.call Zbq [a (v (L V3) 2),a (v (L TR) 3),a (v (L I) 649),a (v I 0)] 713
 (.guard (le (c 0) (v I 1))
 (.guard (lt (v I 1) (ln (v (L B) 5)))
 (.jump 0 [a (v I 0),a (add (v I 1) (c 1)),a (v (L V3) 2),a (v (L TR) 3),a (v (L (L B)) 4),a (st (v (L B) 5) (v I 1) (gt (ln (v (L I) 713)) (c 0)))])))))
 (.guard (le (ln (v (L (L B)) 4)) (c 549755813888))
 (.guard (le (ln (one (v (L B) 5))) (c 549755813888))
 (.jump 1 [a (add (v I 0) (c 1)),a (v (L V3) 2),a (v (L TR) 3),a (app (v (L (L B)) 4) (one (v (L B) 5)))]))))))))
 (.ret [a (v (L (L B)) 3)]))
def Zdv:Tr:=.guard (le (c 0) (v I 1))
 (.guard (le (v I 1) (c 549755813888))
 (.loop [a (v (L I) 0),a (c 0),a (rep (v I 1) (z B))]
 (.ite (lt (v I 1) (ln (v (L I) 0)))
 (.guard (le (c 0) (v I 1))
 (.guard (lt (v I 1) (ln (v (L I) 0)))
 (.guard (le (c 0) (ix (v (L I) 0) (v I 1)))
 (.guard (lt (ix (v (L I) 0) (v I 1)) (ln (v (L B) 2)))
 (.jump 0 [a (v (L I) 0),a (add (v I 1) (c 1)),a (st (v (L B) 2) (ix (v (L I) 0) (v I 1)) (k true))])))))
 (.ret [a (v (L B) 2)]))))
end Go.Proofs.YtknlennollmgeaaGreat
namespace Go.Proofs.YtknlennollmgeaaGreat
open Go Go.Sm Go.Sm.Q
def Zdw:Tr:=.loop [a (v (L I) 0),a (v I 1),a (c 0)]
 (.ite (lt (v I 2) (ln (v (L I) 0)))
 (.guard (le (c 0) (v I 2))
 (.guard (lt (v I 2) (ln (v (L I) 0)))
 (.ite (eq (ix (v (L I) 0) (v I 2)) (v I 1))
 (.ret [a (k true)])
 (.jump 0 [a (v (L I) 0),a (v I 1),a (add (v I 2) (c 1))]))))
 (.ret [a (k false)]))
def Zdx:Tr:=.loop [a (v (L (L I)) 0),a (c 0),a (nl (L I))]
 (.ite (lt (v I 1) (ln (v (L (L I)) 0)))
 (.loop [a (v (L (L I)) 0),a (v I 1),a (c 0),a (v (L (L I)) 2),a (nl I)]
 (.ite (lt (v I 2) (ln (v (L (L I)) 0)))
 (.join
 (.guard (le (c 0) (v I 2))
 (.guard (lt (v I 2) (ln (v (L (L I)) 0)))
 (.call Zbz [a (ix (v (L (L I)) 0) (v I 2)),a (v I 1)] 583
 (.ite (v B 583)
 (.guard (le (ln (v (L I) 4)) (c 549755813888))
 (.guard (le (ln (one (v I 2))) (c 549755813888))
 (.jump 0 [a (v (L (L I)) 0),a (v I 1),a (v I 2),a (v (L (L I)) 3),a (app (v (L I) 4) (one (v I 2)))])))
 (.jump 0 [a (v (L (L I)) 0),a (v I 1),a (v I 2),a (v (L (L I)) 3),a (v (L I) 4)])))))
 (.jump 0 [a (v (L (L I)) 0),a (v I 1),a (add (v I 2) (c 1)),a (v (L (L I)) 3),a (v (L I) 4)]))
 (.guard (le (ln (v (L (L I)) 3)) (c 549755813888))
 (.guard (le (ln (one (v (L I) 4))) (c 549755813888))
 (.jump 1 [a (v (L (L I)) 0),a (add (v I 1) (c 1)),a (app (v (L (L I)) 3) (one (v (L I) 4)))])))))
 (.ret [a (v (L (L I)) 2)]))
def Zdy:Tr:=.loop [a (v (L (L I)) 0),a (v (L B) 1),a (c 0),a (nl I)]
 (.ite (lt (v I 2) (ln (v (L (L I)) 0)))
 (.join
 (.guard (le (c 0) (v I 2))
 (.guard (lt (v I 2) (ln (v (L B) 1)))
 (.ite (ix (v (L B) 1) (v I 2))
 (.guard (le (ln (v (L I) 3)) (c 549755813888))
 (.guard (le (ln (one (c 0))) (c 549755813888))
 (.jump 0 [a (v (L (L I)) 0),a (v (L B) 1),a (v I 2),a (app (v (L I) 3) (one (c 0)))])))
 (.guard (le (ln (v (L I) 3)) (c 549755813888))
 (.guard (le (ln (one (c (-1)))) (c 549755813888))
 (.jump 0 [a (v (L (L I)) 0),a (v (L B) 1),a (v I 2),a (app (v (L I) 3) (one (c (-1))))]))))))
 (.jump 0 [a (v (L (L I)) 0),a (v (L B) 1),a (add (v I 2) (c 1)),a (v (L I) 3)]))
 (.loop [a (v (L (L I)) 0),a (k true),a (c 0),a (v (L I) 3)]
 (.ite (v B 1)
 (.loop [a (v (L (L I)) 0),a (k false),a (v I 2),a (c 0),a (v (L I) 3)]
 (.ite (lt (v I 3) (ln (v (L (L I)) 0)))
 (.join
 (.loop [a (v (L (L I)) 0),a (v B 1),a (v I 2),a (v I 3),a (c 0),a (v (L I) 4)]
 (.guard (le (c 0) (v I 3))
 (.guard (lt (v I 3) (ln (v (L (L I)) 0)))
 (.ite (lt (v I 4) (ln (ix (v (L (L I)) 0) (v I 3))))
 (.guard (le (c 0) (v I 3))
 (.guard (lt (v I 3) (ln (v (L I) 5)))
 (.ite (eq (ix (v (L I) 5) (v I 3)) (v I 2))
 (.join
 (.guard (le (c 0) (v I 3))
 (.guard (lt (v I 3) (ln (v (L (L I)) 0)))
 (.guard (le (c 0) (v I 4))
 (.guard (lt (v I 4) (ln (ix (v (L (L I)) 0) (v I 3))))
 (.guard (le (c 0) (ix (ix (v (L (L I)) 0) (v I 3)) (v I 4)))
 (.guard (lt (ix (ix (v (L (L I)) 0) (v I 3)) (v I 4)) (ln (v (L I) 5)))
 (.ite (lt (ix (v (L I) 5) (ix (ix (v (L (L I)) 0) (v I 3)) (v I 4))) (c 0))
 (.guard (le (c 0) (v I 3))
 (.guard (lt (v I 3) (ln (v (L (L I)) 0)))
 (.guard (le (c 0) (v I 4))
 (.guard (lt (v I 4) (ln (ix (v (L (L I)) 0) (v I 3))))
 (.guard (le (c 0) (ix (ix (v (L (L I)) 0) (v I 3)) (v I 4)))
 (.guard (lt (ix (ix (v (L (L I)) 0) (v I 3)) (v I 4)) (ln (v (L I) 5)))
 (.jump 0 [a (v (L (L I)) 0),a (k true),a (v I 2),a (v I 3),a (v I 4),a (st (v (L I) 5) (ix (ix (v (L (L I)) 0) (v I 3)) (v I 4)) (add (v I 2) (c 1)))])))))))
 (.jump 0 [a (v (L (L I)) 0),a (v B 1),a (v I 2),a (v I 3),a (v I 4),a (v (L I) 5)]))))))))
 (.jump 0 [a (v (L (L I)) 0),a (v B 1),a (v I 2),a (v I 3),a (add (v I 4) (c 1)),a (v (L I) 5)]))
 (.jump 1 [a (v (L (L I)) 0),a (v B 1),a (v I 2),a (v I 3),a (v (L I) 5)]))))
 (.jump 1 [a (v (L (L I)) 0),a (v B 1),a (v I 2),a (v I 3),a (v (L I) 5)])))))
 (.jump 0 [a (v (L (L I)) 0),a (v B 1),a (v I 2),a (add (v I 3) (c 1)),a (v (L I) 4)]))
 (.jump 1 [a (v (L (L I)) 0),a (v B 1),a (add (v I 2) (c 1)),a (v (L I) 4)])))
 (.ret [a (v (L I) 3)]))))
def Zdz:Tr:=.call ZbA [a (v (L (L I)) 0)] 100128
 (.loop [a (v (L (L I)) 0),a (c 0),a (v (L (L I)) 100128),a (nl I)]
 (.ite (lt (v I 1) (ln (v (L (L I)) 0)))
 (.guard (le (ln (v (L I) 3)) (c 549755813888))
 (.guard (le (ln (one (c (-1)))) (c 549755813888))
 (.jump 0 [a (v (L (L I)) 0),a (add (v I 1) (c 1)),a (v (L (L I)) 2),a (app (v (L I) 3) (one (c (-1))))])))
 (.loop [a (v (L (L I)) 0),a (c 0),a (v (L (L I)) 2),a (v (L I) 3)]
 (.ite (lt (v I 1) (ln (v (L (L I)) 0)))
 (.join
 (.guard (le (c 0) (v I 1))
 (.guard (lt (v I 1) (ln (v (L I) 3)))
 (.ite (lt (ix (v (L I) 3) (v I 1)) (c 0))
 (.call Zby [a (one (v I 1)),a (ln (v (L (L I)) 0))] 838
 (.call ZbB [a (v (L (L I)) 0),a (v (L B) 838)] 1094
 (.call ZbB [a (v (L (L I)) 2),a (v (L B) 838)] 1350
 (.loop [a (v (L (L I)) 0),a (v I 1),a (v I 1),a (v (L (L I)) 2),a (v (L I) 3),a (v (L I) 1094),a (v (L I) 1350)]
 (.ite (lt (v I 2) (ln (v (L (L I)) 0)))
 (.join
 (.guard (le (c 0) (v I 2))
 (.guard (lt (v I 2) (ln (v (L I) 5)))
 (.ite (ge (ix (v (L I) 5) (v I 2)) (c 0))
 (.guard (le (c 0) (v I 2))
 (.guard (lt (v I 2) (ln (v (L I) 6)))
 (.ite (ge (ix (v (L I) 6) (v I 2)) (c 0))
 (.guard (le (c 0) (v I 2))
 (.guard (lt (v I 2) (ln (v (L I) 4)))
 (.jump 0 [a (v (L (L I)) 0),a (v I 1),a (v I 2),a (v (L (L I)) 3),a (st (v (L I) 4) (v I 2) (v I 1)),a (v (L I) 5),a (v (L I) 6)])))
 (.jump 0 [a (v (L (L I)) 0),a (v I 1),a (v I 2),a (v (L (L I)) 3),a (v (L I) 4),a (v (L I) 5),a (v (L I) 6)]))))
 (.jump 0 [a (v (L (L I)) 0),a (v I 1),a (v I 2),a (v (L (L I)) 3),a (v (L I) 4),a (v (L I) 5),a (v (L I) 6)]))))
 (.jump 0 [a (v (L (L I)) 0),a (v I 1),a (add (v I 2) (c 1)),a (v (L (L I)) 3),a (v (L I) 4),a (v (L I) 5),a (v (L I) 6)]))
 (.jump 1 [a (v (L (L I)) 0),a (v I 1),a (v (L (L I)) 3),a (v (L I) 4)]))))))
 (.jump 0 [a (v (L (L I)) 0),a (v I 1),a (v (L (L I)) 2),a (v (L I) 3)]))))
 (.jump 0 [a (v (L (L I)) 0),a (add (v I 1) (c 1)),a (v (L (L I)) 2),a (v (L I) 3)]))
 (.ret [a (v (L I) 3)])))))
def ZdA:Tr:=.call Zby [a (v (L I) 3),a (ln (v (L (L I)) 2))] 100448
 (.loop [a (v (L (L I)) 2),a (v (L I) 3),a (c 0),a (nl (L I)),a (v (L B) 100448)]
 (.ite (lt (v I 2) (ln (v (L (L I)) 0)))
 (.join
 (.loop [a (v (L (L I)) 0),a (v (L I) 1),a (v I 2),a (c 0),a (v (L (L I)) 3),a (v (L B) 4),a (nl I)]
 (.guard (le (c 0) (v I 2))
 (.guard (lt (v I 2) (ln (v (L (L I)) 0)))
 (.ite (lt (v I 3) (ln (ix (v (L (L I)) 0) (v I 2))))
 (.guard (le (c 0) (v I 2))
 (.guard (lt (v I 2) (ln (v (L B) 5)))
 (.ite (ix (v (L B) 5) (v I 2))
 (.join
 (.guard (le (c 0) (v I 2))
 (.guard (lt (v I 2) (ln (v (L (L I)) 0)))
 (.guard (le (c 0) (v I 3))
 (.guard (lt (v I 3) (ln (ix (v (L (L I)) 0) (v I 2))))
 (.guard (le (c 0) (ix (ix (v (L (L I)) 0) (v I 2)) (v I 3)))
 (.guard (lt (ix (ix (v (L (L I)) 0) (v I 2)) (v I 3)) (ln (v (L B) 5)))
 (.ite (ix (v (L B) 5) (ix (ix (v (L (L I)) 0) (v I 2)) (v I 3)))
 (.guard (le (c 0) (v I 2))
 (.guard (lt (v I 2) (ln (v (L (L I)) 0)))
 (.guard (le (c 0) (v I 3))
 (.guard (lt (v I 3) (ln (ix (v (L (L I)) 0) (v I 2))))
 (.guard (le (ln (v (L I) 6)) (c 549755813888))
 (.guard (le (ln (one (ix (ix (v (L (L I)) 0) (v I 2)) (v I 3)))) (c 549755813888))
 (.jump 0 [a (v (L (L I)) 0),a (v (L I) 1),a (v I 2),a (v I 3),a (v (L (L I)) 4),a (v (L B) 5),a (app (v (L I) 6) (one (ix (ix (v (L (L I)) 0) (v I 2)) (v I 3))))])))))))
 (.jump 0 [a (v (L (L I)) 0),a (v (L I) 1),a (v I 2),a (v I 3),a (v (L (L I)) 4),a (v (L B) 5),a (v (L I) 6)]))))))))
 (.jump 0 [a (v (L (L I)) 0),a (v (L I) 1),a (v I 2),a (add (v I 3) (c 1)),a (v (L (L I)) 4),a (v (L B) 5),a (v (L I) 6)]))
 (.jump 1 [a (v (L (L I)) 0),a (v (L I) 1),a (v I 2),a (v (L (L I)) 4),a (v (L B) 5),a (v (L I) 6)]))))
 (.jump 1 [a (v (L (L I)) 0),a (v (L I) 1),a (v I 2),a (v (L (L I)) 4),a (v (L B) 5),a (v (L I) 6)])))))
 (.guard (le (ln (v (L (L I)) 3)) (c 549755813888))
 (.guard (le (ln (one (v (L I) 5))) (c 549755813888))
 (.jump 0 [a (v (L (L I)) 0),a (v (L I) 1),a (add (v I 2) (c 1)),a (app (v (L (L I)) 3) (one (v (L I) 5))),a (v (L B) 4)]))))
 (.call ZbC [a (v (L (L I)) 3)] 327
 (.loop [a (v (L (L I)) 0),a (v (L I) 1),a (c 0),a (v (L (L I)) 3),a (v (L I) 327),a (nl (L I))]
 (.ite (lt (v I 2) (ln (v (L I) 1)))
 (.join
 (.guard (le (c 0) (v I 2))
 (.guard (lt (v I 2) (ln (v (L I) 1)))
 (.guard (le (c 0) (ix (v (L I) 1) (v I 2)))
 (.guard (lt (ix (v (L I) 1) (v I 2)) (ln (v (L I) 4)))
 (.guard (le (c 0) (v I 2))
 (.guard (lt (v I 2) (ln (v (L I) 1)))
 (.ite (eq (ix (v (L I) 4) (ix (v (L I) 1) (v I 2))) (ix (v (L I) 1) (v I 2)))
 (.loop [a (v (L (L I)) 0),a (v (L I) 1),a (v I 2),a (c 0),a (v (L (L I)) 3),a (v (L I) 4),a (v (L (L I)) 5),a (nl I)]
 (.ite (lt (v I 3) (ln (v (L I) 1)))
 (.join
 (.guard (le (c 0) (v I 3))
 (.guard (lt (v I 3) (ln (v (L I) 1)))
 (.guard (le (c 0) (ix (v (L I) 1) (v I 3)))
 (.guard (lt (ix (v (L I) 1) (v I 3)) (ln (v (L I) 5)))
 (.guard (le (c 0) (v I 2))
 (.guard (lt (v I 2) (ln (v (L I) 1)))
 (.ite (eq (ix (v (L I) 5) (ix (v (L I) 1) (v I 3))) (ix (v (L I) 1) (v I 2)))
 (.guard (le (c 0) (v I 3))
 (.guard (lt (v I 3) (ln (v (L I) 1)))
 (.guard (le (ln (v (L I) 7)) (c 549755813888))
 (.guard (le (ln (one (ix (v (L I) 1) (v I 3)))) (c 549755813888))
 (.jump 0 [a (v (L (L I)) 0),a (v (L I) 1),a (v I 2),a (v I 3),a (v (L (L I)) 4),a (v (L I) 5),a (v (L (L I)) 6),a (app (v (L I) 7) (one (ix (v (L I) 1) (v I 3))))])))))
 (.jump 0 [a (v (L (L I)) 0),a (v (L I) 1),a (v I 2),a (v I 3),a (v (L (L I)) 4),a (v (L I) 5),a (v (L (L I)) 6),a (v (L I) 7)]))))))))
 (.jump 0 [a (v (L (L I)) 0),a (v (L I) 1),a (v I 2),a (add (v I 3) (c 1)),a (v (L (L I)) 4),a (v (L I) 5),a (v (L (L I)) 6),a (v (L I) 7)]))
 (.ite (gt (ln (v (L I) 7)) (c 1))
 (.guard (le (ln (v (L (L I)) 6)) (c 549755813888))
 (.guard (le (ln (one (v (L I) 7))) (c 549755813888))
 (.jump 1 [a (v (L (L I)) 0),a (v (L I) 1),a (v I 2),a (v (L (L I)) 4),a (v (L I) 5),a (app (v (L (L I)) 6) (one (v (L I) 7)))])))
 (.guard (le (c 0) (v I 2))
 (.guard (lt (v I 2) (ln (v (L I) 1)))
 (.guard (le (c 0) (ix (v (L I) 1) (v I 2)))
 (.guard (lt (ix (v (L I) 1) (v I 2)) (ln (v (L (L I)) 4)))
 (.guard (le (c 0) (v I 2))
 (.guard (lt (v I 2) (ln (v (L I) 1)))
 (.call Zbz [a (ix (v (L (L I)) 4) (ix (v (L I) 1) (v I 2))),a (ix (v (L I) 1) (v I 2))] 1228
 (.ite (v B 1228)
 (.guard (le (ln (v (L (L I)) 6)) (c 549755813888))
 (.guard (le (ln (one (v (L I) 7))) (c 549755813888))
 (.jump 1 [a (v (L (L I)) 0),a (v (L I) 1),a (v I 2),a (v (L (L I)) 4),a (v (L I) 5),a (app (v (L (L I)) 6) (one (v (L I) 7)))])))
 (.guard (le (c 0) (v I 2))
 (.guard (lt (v I 2) (ln (v (L I) 1)))
 (.guard (le (c 0) (ix (v (L I) 1) (v I 2)))
 (.guard (lt (ix (v (L I) 1) (v I 2)) (ln (v (L (L I)) 0)))
 (.ite (eq (ln (ix (v (L (L I)) 0) (ix (v (L I) 1) (v I 2)))) (c 0))
 (.guard (le (ln (v (L (L I)) 6)) (c 549755813888))
 (.guard (le (ln (one (v (L I) 7))) (c 549755813888))
 (.jump 1 [a (v (L (L I)) 0),a (v (L I) 1),a (v I 2),a (v (L (L I)) 4),a (v (L I) 5),a (app (v (L (L I)) 6) (one (v (L I) 7)))])))
 (.jump 1 [a (v (L (L I)) 0),a (v (L I) 1),a (v I 2),a (v (L (L I)) 4),a (v (L I) 5),a (v (L (L I)) 6)])))))))))))))))))
 (.jump 0 [a (v (L (L I)) 0),a (v (L I) 1),a (v I 2),a (v (L (L I)) 3),a (v (L I) 4),a (v (L (L I)) 5)]))))))))
 (.jump 0 [a (v (L (L I)) 0),a (v (L I) 1),a (add (v I 2) (c 1)),a (v (L (L I)) 3),a (v (L I) 4),a (v (L (L I)) 5)]))
 (.ret [a (v (L (L I)) 5)]))))))
def ZdB:Tr:=.call Zbj [a (v (L V3) 0),a (v (L TR) 1),a (v I 2)] 100384
 (.call Zbq [a (v (L V3) 0),a (v (L TR) 1),a (v (L I) 100384),a (v I 3)] 100448
 (.ite (eq (ln (v (L I) 100448)) (c 0))
 (.ret [a (c (-1))])
 (.call Zbv [a (v (L V3) 0),a (v (L TR) 1),a (v (L I) 100448)] 100896
 (.ret [a (v I 100896)]))))
def ZdC:Tr:=.loop [a (v (L I) 2),a (v I 3),a (c 0),a (v (L V3) 0),a (v (L TR) 1)]
 (.ite (lt (v I 2) (ln (v (L I) 0)))
 (.guard (le (c 0) (v I 2))
 (.guard (lt (v I 2) (ln (v (L I) 0)))
 (.call ZbE [a (v (L V3) 3),a (v (L TR) 4),a (ix (v (L I) 0) (v I 2)),a (v I 1)] 710
 (.call Zbz [a (v (L I) 0),a (v I 710)] 774
 (.ite (v B 774)
 (.guard (le (c 0) (v I 2))
 (.guard (lt (v I 2) (ln (v (L I) 0)))
 (.ret [a (ix (v (L I) 0) (v I 2))])))
 (.jump 0 [a (v (L I) 0),a (v I 1),a (add (v I 2) (c 1)),a (v (L V3) 3),a (v (L TR) 4)]))))))
 (.ret [a (c (-1))]))
def ZdD:Tr:=.loop [a (v (L (L B)) 2),a (v (L I) 3),a (v (L I) 4),a (v (L I) 4),a (c 0),a (v (L V3) 0),a (v (L TR) 1)]
 (.ite (lt (v I 4) (ln (v (L I) 1)))
 (.join
 (.guard (le (c 0) (v I 4))
 (.guard (lt (v I 4) (ln (v (L I) 1)))
 (.call ZbF [a (v (L V3) 5),a (v (L TR) 6),a (v (L I) 2),a (ix (v (L I) 1) (v I 4))] 648
 (.ite (lt (v I 648) (c 0))
 (.loop [a (v (L (L B)) 0),a (v (L I) 1),a (v (L I) 2),a (v (L I) 3),a (v I 4),a (c 0),a (v (L V3) 5),a (v (L TR) 6),a (nl I)]
 (.ite (lt (v I 5) (ln (v (L I) 3)))
 (.join
 (.guard (le (c 0) (v I 4))
 (.guard (lt (v I 4) (ln (v (L I) 1)))
 (.guard (le (c 0) (ix (v (L I) 1) (v I 4)))
 (.guard (lt (ix (v (L I) 1) (v I 4)) (ln (v (L (L B)) 0)))
 (.guard (le (c 0) (v I 5))
 (.guard (lt (v I 5) (ln (v (L I) 3)))
 (.guard (le (c 0) (ix (v (L I) 3) (v I 5)))
 (.guard (lt (ix (v (L I) 3) (v I 5)) (ln (ix (v (L (L B)) 0) (ix (v (L I) 1) (v I 4)))))
 (.ite (nt (ix (ix (v (L (L B)) 0) (ix (v (L I) 1) (v I 4))) (ix (v (L I) 3) (v I 5))))
 (.guard (le (c 0) (v I 5))
 (.guard (lt (v I 5) (ln (v (L I) 3)))
 (.guard (le (ln (v (L I) 8)) (c 549755813888))
 (.guard (le (ln (one (ix (v (L I) 3) (v I 5)))) (c 549755813888))
 (.jump 0 [a (v (L (L B)) 0),a (v (L I) 1),a (v (L I) 2),a (v (L I) 3),a (v I 4),a (v I 5),a (v (L V3) 6),a (v (L TR) 7),a (app (v (L I) 8) (one (ix (v (L I) 3) (v I 5))))])))))
 (.jump 0 [a (v (L (L B)) 0),a (v (L I) 1),a (v (L I) 2),a (v (L I) 3),a (v I 4),a (v I 5),a (v (L V3) 6),a (v (L TR) 7),a (v (L I) 8)]))))))))))
 (.jump 0 [a (v (L (L B)) 0),a (v (L I) 1),a (v (L I) 2),a (v (L I) 3),a (v I 4),a (add (v I 5) (c 1)),a (v (L V3) 6),a (v (L TR) 7),a (v (L I) 8)]))
 (.jump 1 [a (v (L (L B)) 0),a (v (L I) 1),a (v (L I) 2),a (v (L I) 8),a (v I 4),a (v (L V3) 6),a (v (L TR) 7)])))
 (.jump 0 [a (v (L (L B)) 0),a (v (L I) 1),a (v (L I) 2),a (v (L I) 3),a (v I 4),a (v (L V3) 5),a (v (L TR) 6)])))))
 (.jump 0 [a (v (L (L B)) 0),a (v (L I) 1),a (v (L I) 2),a (v (L I) 3),a (add (v I 4) (c 1)),a (v (L V3) 5),a (v (L TR) 6)]))
 (.ret [a (v (L I) 3)]))
def ZdE:Tr:=.loop [a (v (L (L B)) 2),a (v (L I) 3),a (v (L I) 4),a (c 0),a (v (L V3) 0),a (v (L TR) 1)]
 (.ite (lt (v I 3) (ln (v (L I) 1)))
 (.join
 (.loop [a (v (L (L B)) 0),a (v (L I) 1),a (v (L I) 2),a (v I 3),a (k true),a (c 0),a (v (L V3) 4),a (v (L TR) 5)]
 (.ite (lt (v I 5) (ln (v (L I) 2)))
 (.join
 (.ite (v B 4)
 (.guard (le (c 0) (v I 3))
 (.guard (lt (v I 3) (ln (v (L I) 1)))
 (.guard (le (c 0) (ix (v (L I) 1) (v I 3)))
 (.guard (lt (ix (v (L I) 1) (v I 3)) (ln (v (L (L B)) 0)))
 (.guard (le (c 0) (v I 5))
 (.guard (lt (v I 5) (ln (v (L I) 2)))
 (.guard (le (c 0) (ix (v (L I) 2) (v I 5)))
 (.guard (lt (ix (v (L I) 2) (v I 5)) (ln (ix (v (L (L B)) 0) (ix (v (L I) 1) (v I 3)))))
 (.jump 0 [a (v (L (L B)) 0),a (v (L I) 1),a (v (L I) 2),a (v I 3),a (ix (ix (v (L (L B)) 0) (ix (v (L I) 1) (v I 3))) (ix (v (L I) 2) (v I 5))),a (v I 5),a (v (L V3) 6),a (v (L TR) 7)])))))))))
 (.jump 0 [a (v (L (L B)) 0),a (v (L I) 1),a (v (L I) 2),a (v I 3),a (k false),a (v I 5),a (v (L V3) 6),a (v (L TR) 7)]))
 (.jump 0 [a (v (L (L B)) 0),a (v (L I) 1),a (v (L I) 2),a (v I 3),a (v B 4),a (add (v I 5) (c 1)),a (v (L V3) 6),a (v (L TR) 7)]))
 (.ite (v B 4)
 (.guard (le (c 0) (v I 3))
 (.guard (lt (v I 3) (ln (v (L I) 1)))
 (.call ZbF [a (v (L V3) 6),a (v (L TR) 7),a (v (L I) 2),a (ix (v (L I) 1) (v I 3))] 777
 (.ite (lt (v I 777) (c 0))
 (.ret [a (k false)])
 (.jump 1 [a (v (L (L B)) 0),a (v (L I) 1),a (v (L I) 2),a (v I 3),a (v (L V3) 6),a (v (L TR) 7)])))))
 (.jump 1 [a (v (L (L B)) 0),a (v (L I) 1),a (v (L I) 2),a (v I 3),a (v (L V3) 6),a (v (L TR) 7)]))))
 (.jump 0 [a (v (L (L B)) 0),a (v (L I) 1),a (v (L I) 2),a (add (v I 3) (c 1)),a (v (L V3) 4),a (v (L TR) 5)]))
 (.ret [a (k true)]))
def ZdF:Tr:=.call ZbD [a (v (L V3) 0),a (v (L TR) 1),a (v (L (L I)) 2),a (v (L I) 6)] 100448
 (.loop [a (v (L (L I)) 2),a (v (L (L B)) 3),a (v (L I) 4),a (v (L I) 5),a (v (L (L I)) 100448),a (c 0),a (v (L V3) 0),a (v (L TR) 1),a (nl (L I))]
 (.ite (lt (v I 5) (ln (v (L (L I)) 4)))
 (.join
 (.guard (le (c 0) (v I 5))
 (.guard (lt (v I 5) (ln (v (L (L I)) 4)))
 (.call ZbG [a (v (L V3) 6),a (v (L TR) 7),a (v (L (L B)) 1),a (v (L I) 3),a (ix (v (L (L I)) 4) (v I 5))] 715
 (.guard (le (c 0) (v I 5))
 (.guard (lt (v I 5) (ln (v (L (L I)) 4)))
 (.ite (eq (ln (v (L I) 715)) (ln (ix (v (L (L I)) 4) (v I 5))))
 (.guard (le (c 0) (v I 5))
 (.guard (lt (v I 5) (ln (v (L (L I)) 4)))
 (.call ZbH [a (v (L V3) 6),a (v (L TR) 7),a (v (L (L B)) 1),a (v (L I) 2),a (ix (v (L (L I)) 4) (v I 5))] 1803
 (.ite (v B 1803)
 (.guard (le (c 0) (v I 5))
 (.guard (lt (v I 5) (ln (v (L (L I)) 4)))
 (.guard (le (ln (v (L (L I)) 8)) (c 549755813888))
 (.guard (le (ln (one (ix (v (L (L I)) 4) (v I 5)))) (c 549755813888))
 (.jump 0 [a (v (L (L I)) 0),a (v (L (L B)) 1),a (v (L I) 2),a (v (L I) 3),a (v (L (L I)) 4),a (v I 5),a (v (L V3) 6),a (v (L TR) 7),a (app (v (L (L I)) 8) (one (ix (v (L (L I)) 4) (v I 5))))])))))
 (.jump 0 [a (v (L (L I)) 0),a (v (L (L B)) 1),a (v (L I) 2),a (v (L I) 3),a (v (L (L I)) 4),a (v I 5),a (v (L V3) 6),a (v (L TR) 7),a (v (L (L I)) 8)])))))
 (.guard (le (c 0) (v I 5))
 (.guard (lt (v I 5) (ln (v (L (L I)) 4)))
 (.call ZbH [a (v (L V3) 6),a (v (L TR) 7),a (v (L (L B)) 1),a (v (L I) 2),a (ix (v (L (L I)) 4) (v I 5))] 1803
 (.ite (v B 1803)
 (.call ZbI [a (v (L V3) 6),a (v (L TR) 7),a (v (L (L I)) 0),a (v (L (L B)) 1),a (v (L I) 2),a (v (L I) 3),a (v (L I) 715)] 2251
 (.loop [a (v (L (L I)) 0),a (v (L (L B)) 1),a (v (L I) 2),a (v (L I) 3),a (v (L (L I)) 4),a (v I 5),a (c 0),a (v (L V3) 6),a (v (L TR) 7),a (v (L (L I)) 8),a (v (L (L I)) 2251)]
 (.ite (lt (v I 6) (ln (v (L (L I)) 10)))
 (.guard (le (c 0) (v I 6))
 (.guard (lt (v I 6) (ln (v (L (L I)) 10)))
 (.guard (le (ln (v (L (L I)) 9)) (c 549755813888))
 (.guard (le (ln (one (ix (v (L (L I)) 10) (v I 6)))) (c 549755813888))
 (.jump 0 [a (v (L (L I)) 0),a (v (L (L B)) 1),a (v (L I) 2),a (v (L I) 3),a (v (L (L I)) 4),a (v I 5),a (add (v I 6) (c 1)),a (v (L V3) 7),a (v (L TR) 8),a (app (v (L (L I)) 9) (one (ix (v (L (L I)) 10) (v I 6)))),a (v (L (L I)) 10)])))))
 (.jump 1 [a (v (L (L I)) 0),a (v (L (L B)) 1),a (v (L I) 2),a (v (L I) 3),a (v (L (L I)) 4),a (v I 5),a (v (L V3) 7),a (v (L TR) 8),a (v (L (L I)) 9)]))))
 (.jump 0 [a (v (L (L I)) 0),a (v (L (L B)) 1),a (v (L I) 2),a (v (L I) 3),a (v (L (L I)) 4),a (v I 5),a (v (L V3) 6),a (v (L TR) 7),a (v (L (L I)) 8)])))))))))))
 (.jump 0 [a (v (L (L I)) 0),a (v (L (L B)) 1),a (v (L I) 2),a (v (L I) 3),a (v (L (L I)) 4),a (add (v I 5) (c 1)),a (v (L V3) 6),a (v (L TR) 7),a (v (L (L I)) 8)]))
 (.ret [a (v (L (L I)) 8)])))
def ZdG:Tr:=.call Zbe [a (v (L V3) 0),a (v (L TR) 1),a (v (L I) 2),a (v (L I) 3)] 100320
 (.ite (nt (v B 100320))
 (.ret [a (nl (L I))])
 (.call Zbg [a (v (L V3) 0),a (v (L TR) 1),a (v (L I) 4)] 100640
 (.ite (nt (v B 100640))
 (.ret [a (nl (L I))])
 (.call Zbw [a (v (L V3) 0),a (v (L TR) 1)] 101344
 (.call Zbx [a (v (L V3) 0),a (v (L TR) 1)] 101408
 (.call ZbI [a (v (L V3) 0),a (v (L TR) 1),a (v (L (L I)) 101344),a (v (L (L B)) 101408),a (v (L I) 2),a (v (L I) 3),a (v (L I) 4)] 101472
 (.loop [a (c 0),a (nl (L I)),a (v (L (L I)) 101472)]
 (.ite (lt (v I 0) (ln (v (L (L I)) 2)))
 (.guard (le (c 0) (v I 0))
 (.guard (lt (v I 0) (ln (v (L (L I)) 2)))
 (.call Zbi [a (ix (v (L (L I)) 2) (v I 0))] 581
 (.guard (le (ln (v (L (L I)) 1)) (c 549755813888))
 (.guard (le (ln (one (v (L I) 581))) (c 549755813888))
 (.jump 0 [a (add (v I 0) (c 1)),a (app (v (L (L I)) 1) (one (v (L I) 581))),a (v (L (L I)) 2)]))))))
 (.ret [a (v (L (L I)) 1)])))))))))
def ZdH:Tr:=.ite (ge (v I 0) (v I 1))
 (.ret [a (le (v I 0) (v I 2))])
 (.ret [a (k false)])
def ZdI:Tr:=.call ZbK [a (v I 0),a (c (-9999)),a (c 9999)] 100256
 (.ite (v B 100256)
 (.call ZbK [a (v I 1),a (v I 0),a (c 9999)] 100640
 (.ite (v B 100640)
 (.ite (lt (sub (v I 1) (v I 0)) (c 20))
 (.call ZbK [a (v I 2),a (v I 0),a (v I 1)] 101728
 (.ret [a (v B 101728)]))
 (.ret [a (k false)]))
 (.ret [a (k false)])))
 (.ret [a (k false)]))
def ZdJ:Tr:=.loop [a (c 1),a (v (L V3) 0),a (ln (v (L V3) 0)),a (c 0)]
 (.ite (lt (v I 3) (v I 2))
 (.guard (le (c 0) (v I 3))
 (.guard (lt (v I 3) (ln (v (L V3) 1)))
 (.jump 0 [a (mul (v I 0) (add (sub (f (s (ix (v (L V3) 1) (v I 3)))) (f (ix (v (L V3) 1) (v I 3)))) (c 1))),a (v (L V3) 1),a (v I 2),a (add (v I 3) (c 1))])))
 (.ret [a (v I 0)]))
def ZdK:Tr:=.ite (eq (v I 0) (c 2))
 (.ret [a (c 2),a (c 1),a (c 1)])
 (.ite (eq (v I 0) (c 3))
 (.ret [a (c 2),a (c 1),a (c 1)])
 (.ite (eq (v I 0) (c 4))
 (.ret [a (c 2),a (c 1),a (c 1)])
 (.ite (eq (v I 0) (c 5))
 (.ret [a (c 2),a (c 1),a (c 2)])
 (.ite (eq (v I 0) (c 6))
 (.ret [a (c 2),a (c 1),a (c 2)])
 (.ite (eq (v I 0) (c 7))
 (.ret [a (c 1),a (c 2),a (c 2)])
 (.ite (eq (v I 0) (c 8))
 (.ret [a (c 2),a (c 2),a (c 2)])
 (.ite (eq (v I 0) (c 9))
 (.ret [a (c 2),a (c 2),a (c 2)])
 (.ret [a (c 0),a (c 0),a (c 1)]))))))))
def ZdL:Tr:=.call ZbK [a (v I 1),a (c 0),a (c 5)] 100128
 (.ite (nt (v B 100128))
 (.ret [a (.nil true I)])
 (.call ZbK [a (ln (v (L T4) 0)),a (c 1),a (c 40)] 100448
 (.ite (nt (v B 100448))
 (.ret [a (.nil true I)])
 (.guard (le (c 0) (ln (v (L T4) 0)))
 (.guard (le (ln (v (L T4) 0)) (c 549755813888))
 (.loop [a (v I 1),a (v (L T4) 0),a (ln (v (L T4) 0)),a (c 0),a (rep (c 0) (z I))]
 (.ite (lt (v I 3) (v I 2))
 (.guard (le (c 0) (v I 3))
 (.guard (lt (v I 3) (ln (v (L T4) 1)))
 (.call ZbN [a (f (ix (v (L T4) 1) (v I 3)))] 582
 (.call ZbK [a (f (ix (v (L T4) 1) (v I 3))),a (c 0),a (c 9)] 1222
 (.join
 (.ite (eq (f (ix (v (L T4) 1) (v I 3))) (c 0))
 (.call ZbK [a (f (s (ix (v (L T4) 1) (v I 3)))),a (c (-9999)),a (c 9999)] 1734
 (.ite (v B 1734)
 (.ite (eq (f (s (s (ix (v (L T4) 1) (v I 3))))) (c 0))
 (.jump 0 [a (v I 0),a (v I 584),a (eq (s (s (s (ix (v (L T4) 1) (v I 3))))) (c 0)),a (v (L T4) 1),a (v I 2),a (v I 3),a (v (L I) 4)])
 (.jump 0 [a (v I 0),a (v I 584),a (k false),a (v (L T4) 1),a (v I 2),a (v I 3),a (v (L I) 4)]))
 (.jump 0 [a (v I 0),a (v I 584),a (k false),a (v (L T4) 1),a (v I 2),a (v I 3),a (v (L I) 4)])))
 (.ite (eq (f (ix (v (L T4) 1) (v I 3))) (c 1))
 (.call ZbK [a (f (s (ix (v (L T4) 1) (v I 3)))),a (c 0),a (sub (v I 0) (c 1))] 2118
 (.ite (v B 2118)
 (.ite (eq (f (s (s (ix (v (L T4) 1) (v I 3))))) (c 0))
 (.jump 0 [a (v I 0),a (v I 584),a (eq (s (s (s (ix (v (L T4) 1) (v I 3))))) (c 0)),a (v (L T4) 1),a (v I 2),a (v I 3),a (v (L I) 4)])
 (.jump 0 [a (v I 0),a (v I 584),a (k false),a (v (L T4) 1),a (v I 2),a (v I 3),a (v (L I) 4)]))
 (.jump 0 [a (v I 0),a (v I 584),a (k false),a (v (L T4) 1),a (v I 2),a (v I 3),a (v (L I) 4)])))
 (.ite (v B 1222)
 (.ite (eq (f (s (ix (v (L T4) 1) (v I 3)))) (c 0))
 (.call ZbK [a (f (s (s (ix (v (L T4) 1) (v I 3))))),a (c 0),a (sub (v I 3) (c 1))] 2502
 (.ite (v B 2502)
 (.call ZbK [a (s (s (s (ix (v (L T4) 1) (v I 3))))),a (c 0),a (sub (v I 3) (c 1))] 2950
 (.ite (v B 2950)
 (.guard (le (c 0) (f (s (s (ix (v (L T4) 1) (v I 3))))))
 (.guard (lt (f (s (s (ix (v (L T4) 1) (v I 3))))) (ln (v (L I) 4)))
 (.ite (eq (ix (v (L I) 4) (f (s (s (ix (v (L T4) 1) (v I 3)))))) (v I 583))
 (.guard (le (c 0) (s (s (s (ix (v (L T4) 1) (v I 3))))))
 (.guard (lt (s (s (s (ix (v (L T4) 1) (v I 3))))) (ln (v (L I) 4)))
 (.ite (eq (ix (v (L I) 4) (s (s (s (ix (v (L T4) 1) (v I 3)))))) (v I 583))
 (.ite (eq (v I 582) (c 2))
 (.jump 0 [a (v I 0),a (v I 584),a (k true),a (v (L T4) 1),a (v I 2),a (v I 3),a (v (L I) 4)])
 (.jump 0 [a (v I 0),a (v I 584),a (eq (f (s (s (ix (v (L T4) 1) (v I 3))))) (s (s (s (ix (v (L T4) 1) (v I 3)))))),a (v (L T4) 1),a (v I 2),a (v I 3),a (v (L I) 4)]))
 (.jump 0 [a (v I 0),a (v I 584),a (k false),a (v (L T4) 1),a (v I 2),a (v I 3),a (v (L I) 4)]))))
 (.jump 0 [a (v I 0),a (v I 584),a (k false),a (v (L T4) 1),a (v I 2),a (v I 3),a (v (L I) 4)]))))
 (.jump 0 [a (v I 0),a (v I 584),a (k false),a (v (L T4) 1),a (v I 2),a (v I 3),a (v (L I) 4)])))
 (.jump 0 [a (v I 0),a (v I 584),a (k false),a (v (L T4) 1),a (v I 2),a (v I 3),a (v (L I) 4)])))
 (.jump 0 [a (v I 0),a (v I 584),a (k false),a (v (L T4) 1),a (v I 2),a (v I 3),a (v (L I) 4)]))
 (.jump 0 [a (v I 0),a (v I 584),a (k false),a (v (L T4) 1),a (v I 2),a (v I 3),a (v (L I) 4)]))))
 (.ite (nt (v B 2))
 (.ret [a (.nil true I)])
 (.guard (le (ln (v (L I) 6)) (c 549755813888))
 (.guard (le (ln (one (v I 1))) (c 549755813888))
 (.jump 0 [a (v I 0),a (v (L T4) 3),a (v I 4),a (add (v I 5) (c 1)),a (app (v (L I) 6) (one (v I 1)))])))))))))
 (.guard (nt (emp (v (L I) 4)))
 (.ret [a (re true (v (L I) 4))])))))))))
def ZdM:Tr:=.call ZbO [a (v (L T4) 0),a (v I 1)] 100192
 (.ite (emp (v (N I) 100192))
 (.ret [a (c 0)])
 (.guard (le (c 0) (sub (lm (v (N I) 100192)) (c 1)))
 (.guard (lt (sub (lm (v (N I) 100192)) (c 1)) (lm (v (N I) 100192)))
 (.ret [a (im (v (N I) 100192) (sub (lm (v (N I) 100192)) (c 1)))]))))
def ZdN:Tr:=.call ZbP [a (v (L T4) 0),a (v I 3)] 100320
 (.ite (ne (v I 100320) (c 2))
 (.ret [a (k false)])
 (.ite (ne (ln (v (L I) 1)) (ln (v (L (L T4)) 2)))
 (.ret [a (k false)])
 (.loop [a (v I 3),a (v (L I) 1),a (ln (v (L I) 1)),a (c 0),a (v (L T4) 0),a (v (L I) 1),a (v (L (L T4)) 2)]
 (.ite (lt (v I 3) (v I 2))
 (.join
 (.guard (le (c 0) (v I 3))
 (.guard (lt (v I 3) (ln (v (L I) 1)))
 (.call ZbK [a (ix (v (L I) 1) (v I 3)),a (c 0),a (sub (v I 0) (c 1))] 584
 (.ite (nt (v B 584))
 (.ret [a (k false)])
 (.ite (gt (v I 3) (c 0))
 (.guard (le (c 0) (sub (v I 3) (c 1)))
 (.guard (lt (sub (v I 3) (c 1)) (ln (v (L I) 5)))
 (.ite (ge (ix (v (L I) 5) (sub (v I 3) (c 1))) (ix (v (L I) 1) (v I 3)))
 (.ret [a (k false)])
 (.guard (le (c 0) (v I 3))
 (.guard (lt (v I 3) (ln (v (L (L T4)) 6)))
 (.call ZbP [a (ix (v (L (L T4)) 6) (v I 3)),a (v I 0)] 2056
 (.ite (ne (v I 2056) (c 1))
 (.ret [a (k false)])
 (.jump 0 [a (v I 0),a (v (L I) 1),a (v I 2),a (v I 3),a (v (L T4) 4),a (v (L I) 5),a (v (L (L T4)) 6)]))))))))
 (.guard (le (c 0) (v I 3))
 (.guard (lt (v I 3) (ln (v (L (L T4)) 6)))
 (.call ZbP [a (ix (v (L (L T4)) 6) (v I 3)),a (v I 0)] 2056
 (.ite (ne (v I 2056) (c 1))
 (.ret [a (k false)])
 (.jump 0 [a (v I 0),a (v (L I) 1),a (v I 2),a (v I 3),a (v (L T4) 4),a (v (L I) 5),a (v (L (L T4)) 6)]))))))))))
 (.jump 0 [a (v I 0),a (v (L I) 1),a (v I 2),a (add (v I 3) (c 1)),a (v (L T4) 4),a (v (L I) 5),a (v (L (L T4)) 6)]))
 (.ret [a (k true)])))))
def ZdO:Tr:=.join
 (.call ZbK [a (ln (v (L V3) 0)),a (c 1),a (c 5)] 100320
 (.ite (nt (v B 100320))
 (.ret [a (k false)])
 (.ite (gt (ln (v (L TR) 1)) (c 8))
 (.ret [a (k false)])
 (.loop [a (v (L V3) 0),a (ln (v (L V3) 0)),a (c 0),a (v (L V3) 0),a (v (L TR) 1)]
 (.ite (lt (v I 2) (v I 1))
 (.guard (le (c 0) (v I 2))
 (.guard (lt (v I 2) (ln (v (L V3) 0)))
 (.call ZbL [a (f (ix (v (L V3) 0) (v I 2))),a (f (s (ix (v (L V3) 0) (v I 2)))),a (s (s (ix (v (L V3) 0) (v I 2))))] 774
 (.ite (nt (v B 774))
 (.ite (ge (v I 2) (c 0))
 (.ret [a (k false)])
 (.call ZbM [a (v (L V3) 3)] 3014
 (.ite (gt (v I 3014) (c 400))
 (.ret [a (k false)])
 (.jump 1 [a (v (L V3) 3),a (v (L TR) 4)]))))
 (.jump 0 [a (v (L V3) 0),a (v I 1),a (add (v I 2) (c 1)),a (v (L V3) 3),a (v (L TR) 4)])))))
 (.call ZbM [a (v (L V3) 3)] 1670
 (.ite (gt (v I 1670) (c 400))
 (.ret [a (k false)])
 (.jump 1 [a (v (L V3) 3),a (v (L TR) 4)]))))))))
 (.loop [a (v (L TR) 1),a (ln (v (L TR) 1)),a (c 0),a (v (L V3) 0),a (v (L TR) 1)]
 (.ite (lt (v I 2) (v I 1))
 (.guard (le (c 0) (v I 2))
 (.guard (lt (v I 2) (ln (v (L TR) 0)))
 (.call ZbQ [a (f (ix (v (L TR) 0) (v I 2))),a (f (s (ix (v (L TR) 0) (v I 2)))),a (s (s (ix (v (L TR) 0) (v I 2)))),a (ln (v (L V3) 3))] 966
 (.ite (nt (v B 966))
 (.ret [a (nt (ge (v I 2) (c 0)))])
 (.jump 0 [a (v (L TR) 0),a (v I 1),a (add (v I 2) (c 1)),a (v (L V3) 3),a (v (L TR) 4)])))))
 (.ret [a (nt (ge (c (-1)) (c 0)))])))
def ZdP:Tr:=.loop [a (v (L I) 0),a (v I 1),a (v (L I) 0),a (ln (v (L I) 0)),a (c 0)]
 (.ite (lt (v I 4) (v I 3))
 (.join
 (.guard (le (c 0) (v I 4))
 (.guard (lt (v I 4) (ln (v (L I) 2)))
 (.call ZbK [a (ix (v (L I) 2) (v I 4)),a (c 0),a (sub (v I 1) (c 1))] 581
 (.ite (nt (v B 581))
 (.ret [a (k false)])
 (.ite (gt (v I 4) (c 0))
 (.guard (le (c 0) (sub (v I 4) (c 1)))
 (.guard (lt (sub (v I 4) (c 1)) (ln (v (L I) 0)))
 (.ite (ge (ix (v (L I) 0) (sub (v I 4) (c 1))) (ix (v (L I) 2) (v I 4)))
 (.ret [a (k false)])
 (.jump 0 [a (v (L I) 0),a (v I 1),a (v (L I) 2),a (v I 3),a (v I 4)]))))
 (.jump 0 [a (v (L I) 0),a (v I 1),a (v (L I) 2),a (v I 3),a (v I 4)]))))))
 (.jump 0 [a (v (L I) 0),a (v I 1),a (v (L I) 2),a (v I 3),a (add (v I 4) (c 1))]))
 (.ret [a (k true)]))
def ZdQ:Tr:=.call ZbS [a (v (L I) 2),a (ln (v (L TR) 1))] 100384
 (.ret [a (v B 100384)])
def ZdR:Tr:=.guard (le (c 0) (ln (v (L V3) 0)))
 (.guard (le (ln (v (L V3) 0)) (c 549755813888))
 (.loop [a (v I 2),a (sub (ln (rep (ln (v (L V3) 0)) (z I))) (c 1)),a (v (L V3) 0),a (v (L TR) 1),a (rep (ln (v (L V3) 0)) (z I))]
 (.ite (ge (v I 1) (c 0))
 (.guard (le (c 0) (v I 1))
 (.guard (lt (v I 1) (ln (v (L V3) 2)))
 (.guard (ne (add (sub (f (s (ix (v (L V3) 2) (v I 1)))) (f (ix (v (L V3) 2) (v I 1)))) (c 1)) (c 0))
 (.guard (le (c 0) (v I 1))
 (.guard (lt (v I 1) (ln (v (L I) 4)))
 (.guard (ne (add (sub (f (s (ix (v (L V3) 2) (v I 1)))) (f (ix (v (L V3) 2) (v I 1)))) (c 1)) (c 0))
 (.jump 0 [a (quo (v I 0) (add (sub (f (s (ix (v (L V3) 2) (v I 1)))) (f (ix (v (L V3) 2) (v I 1)))) (c 1))),a (sub (v I 1) (c 1)),a (v (L V3) 2),a (v (L TR) 3),a (st (v (L I) 4) (v I 1) (add (f (ix (v (L V3) 2) (v I 1))) (rem (v I 0) (add (sub (f (s (ix (v (L V3) 2) (v I 1)))) (f (ix (v (L V3) 2) (v I 1)))) (c 1)))))])))))))
 (.ret [a (v (L I) 4)]))))
def ZdS:Tr:=.ret [a (.o2 (.mx .i64) (c (-9999)) (.o2 (.mn .i64) (c 9999) (v I 0)))]
def ZdT:Tr:=.ite (v B 0)
 (.ret [a (c 1)])
 (.ret [a (c 0)])
def ZdU:Tr:=.ite (eq (v I 0) (c 2))
 (.call ZbV [a (add (v I 1) (v I 2))] 100448
 (.ret [a (v I 100448)]))
 (.ite (eq (v I 0) (c 3))
 (.call ZbV [a (sub (v I 1) (v I 2))] 100576
 (.ret [a (v I 100576)]))
 (.ite (eq (v I 0) (c 4))
 (.call ZbV [a (mul (v I 1) (v I 2))] 100704
 (.ret [a (v I 100704)]))
 (.ite (eq (v I 0) (c 5))
 (.call ZbW [a (lt (v I 1) (v I 2))] 100832
 (.ret [a (v I 100832)]))
 (.ite (eq (v I 0) (c 6))
 (.call ZbW [a (eq (v I 1) (v I 2))] 100960
 (.ret [a (v I 100960)]))
 (.ite (eq (v I 0) (c 7))
 (.ret [a (sub (c 1) (v I 1))])
 (.ite (eq (v I 0) (c 8))
 (.ret [a (.o2 (.mn .i64) (v I 1) (v I 2))])
 (.ret [a (.o2 (.mx .i64) (v I 1) (v I 2))])))))))
def ZdV:Tr:=.guard (le (c 0) (ln (v (L T4) 0)))
 (.guard (le (ln (v (L T4) 0)) (c 549755813888))
 (.loop [a (v (L I) 1),a (v (L T4) 0),a (ln (v (L T4) 0)),a (c 0),a (rep (ln (v (L T4) 0)) (z I))]
 (.ite (lt (v I 3) (v I 2))
 (.join
 (.guard (le (c 0) (v I 3))
 (.guard (lt (v I 3) (ln (v (L T4) 1)))
 (.ite (eq (f (ix (v (L T4) 1) (v I 3))) (c 0))
 (.guard (le (c 0) (v I 3))
 (.guard (lt (v I 3) (ln (v (L I) 4)))
 (.jump 0 [a (v (L I) 0),a (v (L T4) 1),a (v I 2),a (v I 3),a (st (v (L I) 4) (v I 3) (f (s (ix (v (L T4) 1) (v I 3)))))])))
 (.ite (eq (f (ix (v (L T4) 1) (v I 3))) (c 1))
 (.guard (le (c 0) (f (s (ix (v (L T4) 1) (v I 3)))))
 (.guard (lt (f (s (ix (v (L T4) 1) (v I 3)))) (ln (v (L I) 0)))
 (.guard (le (c 0) (v I 3))
 (.guard (lt (v I 3) (ln (v (L I) 4)))
 (.jump 0 [a (v (L I) 0),a (v (L T4) 1),a (v I 2),a (v I 3),a (st (v (L I) 4) (v I 3) (ix (v (L I) 0) (f (s (ix (v (L T4) 1) (v I 3))))))])))))
 (.guard (le (c 0) (f (s (s (ix (v (L T4) 1) (v I 3))))))
 (.guard (lt (f (s (s (ix (v (L T4) 1) (v I 3))))) (ln (v (L I) 4)))
 (.guard (le (c 0) (s (s (s (ix (v (L T4) 1) (v I 3))))))
 (.guard (lt (s (s (s (ix (v (L T4) 1) (v I 3))))) (ln (v (L I) 4)))
 (.call ZbX [a (f (ix (v (L T4) 1) (v I 3))),a (ix (v (L I) 4) (f (s (s (ix (v (L T4) 1) (v I 3)))))),a (ix (v (L I) 4) (s (s (s (ix (v (L T4) 1) (v I 3))))))] 1734
 (.guard (le (c 0) (v I 3))
 (.guard (lt (v I 3) (ln (v (L I) 4)))
 (.jump 0 [a (v (L I) 0),a (v (L T4) 1),a (v I 2),a (v I 3),a (st (v (L I) 4) (v I 3) (v I 1734))]))))))))))))
 (.jump 0 [a (v (L I) 0),a (v (L T4) 1),a (v I 2),a (add (v I 3) (c 1)),a (v (L I) 4)]))
 (.guard (le (c 0) (sub (ln (v (L I) 4)) (c 1)))
 (.guard (lt (sub (ln (v (L I) 4)) (c 1)) (ln (v (L I) 4)))
 (.ret [a (ix (v (L I) 4) (sub (ln (v (L I) 4)) (c 1)))]))))))
def ZdW:Tr:=.ite (eq (ln (v (L I) 0)) (c 0))
 (.ret [a (nl I)])
 (.guard (le (c 0) (ln (v (L I) 0)))
 (.guard (le (ln (v (L I) 0)) (c 549755813888))
 (.ret [a (over (rep (ln (v (L I) 0)) (z I)) (v (L I) 0))])))
def ZdX:Tr:=.ite (ne (ln (v (L I) 2)) (ln (v (L V3) 0)))
 (.ret [a (k false)])
 (.loop [a (v (L I) 2),a (v (L V3) 0),a (ln (v (L V3) 0)),a (c 0)]
 (.ite (lt (v I 3) (v I 2))
 (.guard (le (c 0) (v I 3))
 (.guard (lt (v I 3) (ln (v (L V3) 1)))
 (.guard (le (c 0) (v I 3))
 (.guard (lt (v I 3) (ln (v (L I) 0)))
 (.call ZbK [a (ix (v (L I) 0) (v I 3)),a (f (ix (v (L V3) 1) (v I 3))),a (f (s (ix (v (L V3) 1) (v I 3))))] 964
 (.ite (nt (v B 964))
 (.ret [a (k false)])
 (.jump 0 [a (v (L I) 0),a (v (L V3) 1),a (v I 2),a (add (v I 3) (c 1))])))))))
 (.ret [a (k true)])))
def ZdY:Tr:=.guard (le (c 0) (v I 3))
 (.guard (lt (v I 3) (ln (v (L TR) 1)))
 (.call ZbY [a (f (ix (v (L TR) 1) (v I 3))),a (v (L I) 2)] 100832
 (.ite (eq (v I 100832) (c 0))
 (.ret [a (nl I),a (k false)])
 (.call ZbZ [a (v (L I) 2)] 101024
 (.loop [a (v (L I) 2),a (f (s (ix (v (L TR) 1) (v I 3)))),a (ln (f (s (ix (v (L TR) 1) (v I 3))))),a (c 0),a (v (L V3) 0),a (v (L TR) 1),a (f (ix (v (L TR) 1) (v I 3))),a (f (s (ix (v (L TR) 1) (v I 3)))),a (s (s (ix (v (L TR) 1) (v I 3)))),a (v (L I) 101024)]
 (.ite (lt (v I 3) (v I 2))
 (.guard (le (c 0) (v I 3))
 (.guard (lt (v I 3) (ln (v (L I) 1)))
 (.guard (le (c 0) (v I 3))
 (.guard (lt (v I 3) (ln (v (L (L T4)) 8)))
 (.call ZbY [a (ix (v (L (L T4)) 8) (v I 3)),a (v (L I) 0)] 909
 (.guard (le (c 0) (ix (v (L I) 1) (v I 3)))
 (.guard (lt (ix (v (L I) 1) (v I 3)) (ln (v (L I) 9)))
 (.jump 0 [a (v (L I) 0),a (v (L I) 1),a (v I 2),a (add (v I 3) (c 1)),a (v (L V3) 4),a (v (L TR) 5),a (v (L T4) 6),a (v (L I) 7),a (v (L (L T4)) 8),a (st (v (L I) 9) (ix (v (L I) 1) (v I 3)) (v I 909))]))))))))
 (.call Zb_ [a (v (L V3) 4),a (v (L TR) 5),a (v (L I) 9)] 205
 (.ite (nt (v B 205))
 (.ret [a (nl I),a (k false)])
 (.ret [a (v (L I) 9),a (k true)])))))))))
def ZdZ:Tr:=.ret [a (ne (v I 0) (v I 0))]
end Go.Proofs.YtknlennollmgeaaGreat
namespace Go.Proofs.YtknlennollmgeaaGreat
open Go Go.Sm Go.Sm.Q
def Zd_:Tr:=.call Zc1 [a (v I 0)] 100128
 (.call Zc1 [a (v I 1)] 100320
 (.ite (v B 100128)
 (.ite (v B 100320)
 (.ret [a (c 0)])
 (.ret [a (c (-1))]))
 (.ite (v B 100320)
 (.ret [a (c 1)])
 (.ite (lt (v I 0) (v I 1))
 (.ret [a (c (-1))])
 (.ite (gt (v I 0) (v I 1))
 (.ret [a (c 1)])
 (.ret [a (c 0)]))))))
def Ze0:Tr:=.loop [a (v (L I) 0),a (v (L I) 1),a (v (L I) 0),a (ln (v (L I) 0)),a (c 0)]
 (.ite (lt (v I 4) (v I 3))
 (.guard (le (c 0) (v I 4))
 (.guard (lt (v I 4) (ln (v (L I) 2)))
 (.ite (ge (v I 4) (ln (v (L I) 1)))
 (.ret [a (c 1)])
 (.guard (le (c 0) (v I 4))
 (.guard (lt (v I 4) (ln (v (L I) 1)))
 (.call Zc2 [a (ix (v (L I) 2) (v I 4)),a (ix (v (L I) 1) (v I 4))] 1093
 (.ite (ne (v I 1093) (c 0))
 (.ret [a (v I 1093)])
 (.jump 0 [a (v (L I) 0),a (v (L I) 1),a (v (L I) 2),a (v I 3),a (add (v I 4) (c 1))]))))))))
 (.ite (lt (ln (v (L I) 0)) (ln (v (L I) 1)))
 (.ret [a (c (-1))])
 (.ret [a (c 0)])))
def Ze1:Tr:=.loop [a (c 0),a (sub (ln (v (L (L I)) 0)) (c 1)),a (v (L (L I)) 0)]
 (.ite (lt (v I 0) (v I 1))
 (.guard (le (c 0) (v I 1))
 (.guard (lt (v I 1) (ln (v (L (L I)) 2)))
 (.guard (le (c 0) (v I 0))
 (.guard (lt (v I 0) (ln (v (L (L I)) 2)))
 (.guard (le (c 0) (v I 0))
 (.guard (lt (v I 0) (ln (v (L (L I)) 2)))
 (.guard (le (c 0) (v I 1))
 (.guard (lt (v I 1) (ln (st (v (L (L I)) 2) (v I 0) (ix (v (L (L I)) 2) (v I 1)))))
 (.jump 0 [a (add (v I 0) (c 1)),a (sub (v I 1) (c 1)),a (st (st (v (L (L I)) 2) (v I 0) (ix (v (L (L I)) 2) (v I 1))) (v I 1) (ix (v (L (L I)) 2) (v I 0)))])))))))))
 (.ret []))
def Ze2:Tr:=.ite (eq (ln (v (L (L I)) 0)) (c 0))
 (.ret [a (nl (L I))])
 (.guard (le (c 0) (ln (v (L (L I)) 0)))
 (.guard (le (ln (v (L (L I)) 0)) (c 549755813888))
 (.ret [a (over (rep (ln (v (L (L I)) 0)) (z (L I))) (v (L (L I)) 0))])))
def Ze3:Tr:=.loop [a (v (L I) 2),a (ln (v (L TR) 1)),a (c 0),a (v (L V3) 0),a (v (L TR) 1),a (nl (L I))]
 (.ite (lt (v I 2) (v I 1))
 (.join
 (.call Zc0 [a (v (L V3) 3),a (v (L TR) 4),a (v (L I) 0),a (v I 2)] 392
 (.ite (v B 393)
 (.join
 (.loop [a (ln (v (L (L I)) 5)),a (c 0),a (ln (v (L (L I)) 5)),a (v (L I) 0),a (v I 1),a (v I 2),a (v (L (L I)) 5),a (v (L I) 392),a (v (L V3) 3),a (v (L TR) 4)]
 (.ite (lt (v I 1) (v I 2))
 (.guard (le (c 0) (.o1 (.conv .u64 .i64) (.o2 (.sh false .u64 .u64) (.o1 (.conv .i64 .u64) (add (v I 1) (v I 2))) (.int .u64 1))))
 (.guard (lt (.o1 (.conv .u64 .i64) (.o2 (.sh false .u64 .u64) (.o1 (.conv .i64 .u64) (add (v I 1) (v I 2))) (.int .u64 1))) (ln (v (L (L I)) 6)))
 (.call Zc3 [a (ix (v (L (L I)) 6) (.o1 (.conv .u64 .i64) (.o2 (.sh false .u64 .u64) (.o1 (.conv .i64 .u64) (add (v I 1) (v I 2))) (.int .u64 1)))),a (v (L I) 7)] 1037
 (.ite (lt (v I 1037) (c 0))
 (.jump 0 [a (v I 0),a (add (.o1 (.conv .u64 .i64) (.o2 (.sh false .u64 .u64) (.o1 (.conv .i64 .u64) (add (v I 1) (v I 2))) (.int .u64 1))) (c 1)),a (v I 2),a (v (L I) 3),a (v I 4),a (v I 5),a (v (L (L I)) 6),a (v (L I) 7),a (v (L V3) 8),a (v (L TR) 9)])
 (.jump 0 [a (v I 0),a (v I 1),a (.o1 (.conv .u64 .i64) (.o2 (.sh false .u64 .u64) (.o1 (.conv .i64 .u64) (add (v I 1) (v I 2))) (.int .u64 1))),a (v (L I) 3),a (v I 4),a (v I 5),a (v (L (L I)) 6),a (v (L I) 7),a (v (L V3) 8),a (v (L TR) 9)])))))
 (.ite (lt (v I 1) (v I 0))
 (.guard (le (c 0) (v I 1))
 (.guard (lt (v I 1) (ln (v (L (L I)) 6)))
 (.call Zc3 [a (ix (v (L (L I)) 6) (v I 1)),a (v (L I) 7)] 909
 (.jump 1 [a (v (L I) 3),a (v I 1),a (eq (v I 909) (c 0)),a (v I 4),a (v I 5),a (v (L V3) 8),a (v (L TR) 9),a (v (L (L I)) 6),a (v (L I) 7)]))))
 (.jump 1 [a (v (L I) 3),a (v I 1),a (k false),a (v I 4),a (v I 5),a (v (L V3) 8),a (v (L TR) 9),a (v (L (L I)) 6),a (v (L I) 7)]))))
 (.ite (nt (v B 2))
 (.guard (le (c 0) (v I 1))
 (.guard (le (v I 1) (ln (v (L (L I)) 7)))
 (.guard (le (ln (v (L (L I)) 7)) (c 549755813888))
 (.guard (eq (ln (one (v (L I) 8))) (c 1))
 (.jump 0 [a (v (L I) 0),a (v I 3),a (v I 4),a (v (L V3) 5),a (v (L TR) 6),a (app (app (take (v (L (L I)) 7) (v I 1)) (one (v (L I) 8))) (drop (v (L (L I)) 7) (v I 1)))])))))
 (.jump 0 [a (v (L I) 0),a (v I 3),a (v I 4),a (v (L V3) 5),a (v (L TR) 6),a (v (L (L I)) 7)])))
 (.jump 0 [a (v (L I) 0),a (v I 1),a (v I 2),a (v (L V3) 3),a (v (L TR) 4),a (v (L (L I)) 5)])))
 (.jump 0 [a (v (L I) 0),a (v I 1),a (add (v I 2) (c 1)),a (v (L V3) 3),a (v (L TR) 4),a (v (L (L I)) 5)]))
 (.call Zc5 [a (v (L (L I)) 5)] 136
 (.ret [a (v (L (L I)) 136)])))
def Ze4:Tr:=.loop [a (v (L I) 2),a (c 0),a (v (L V3) 0),a (ln (v (L V3) 0)),a (c 0)]
 (.ite (lt (v I 4) (v I 3))
 (.guard (le (c 0) (v I 4))
 (.guard (lt (v I 4) (ln (v (L V3) 2)))
 (.guard (le (c 0) (v I 4))
 (.guard (lt (v I 4) (ln (v (L I) 0)))
 (.jump 0 [a (v (L I) 0),a (sub (add (mul (v I 1) (add (sub (f (s (ix (v (L V3) 2) (v I 4)))) (f (ix (v (L V3) 2) (v I 4)))) (c 1))) (ix (v (L I) 0) (v I 4))) (f (ix (v (L V3) 2) (v I 4)))),a (v (L V3) 2),a (v I 3),a (add (v I 4) (c 1))])))))
 (.ret [a (v I 1)]))
def Ze5:Tr:=.call ZbM [a (v (L V3) 0)] 100256
 (.guard (le (c 0) (v I 100256))
 (.guard (le (v I 100256) (c 549755813888))
 (.loop [a (ln (rep (v I 100256) (z (L I)))),a (c 0),a (v (L V3) 0),a (v (L TR) 1),a (rep (v I 100256) (z (L I)))]
 (.ite (lt (v I 1) (v I 0))
 (.call ZbU [a (v (L V3) 2),a (v (L TR) 3),a (v I 1)] 455
 (.call Zc6 [a (v (L V3) 2),a (v (L TR) 3),a (v (L I) 455)] 519
 (.loop [a (v I 1),a (v I 0),a (v I 1),a (ln (v (L (L I)) 519)),a (c 0),a (v (L V3) 2),a (v (L TR) 3),a (v (L (L I)) 4),a (v (L (L I)) 519)]
 (.ite (lt (v I 4) (v I 3))
 (.guard (le (c 0) (v I 4))
 (.guard (lt (v I 4) (ln (v (L (L I)) 8)))
 (.guard (le (c 0) (v I 0))
 (.guard (lt (v I 0) (ln (v (L (L I)) 7)))
 (.call Zc7 [a (v (L V3) 5),a (v (L TR) 6),a (ix (v (L (L I)) 8) (v I 4))] 780
 (.guard (le (ln (ix (v (L (L I)) 7) (v I 0))) (c 549755813888))
 (.guard (le (ln (one (v I 780))) (c 549755813888))
 (.guard (le (c 0) (v I 0))
 (.guard (lt (v I 0) (ln (v (L (L I)) 7)))
 (.jump 0 [a (v I 0),a (v I 1),a (v I 2),a (v I 3),a (add (v I 4) (c 1)),a (v (L V3) 5),a (v (L TR) 6),a (st (v (L (L I)) 7) (v I 0) (app (ix (v (L (L I)) 7) (v I 0)) (one (v I 780)))),a (v (L (L I)) 8)]))))))))))
 (.jump 1 [a (v I 1),a (add (v I 2) (c 1)),a (v (L V3) 5),a (v (L TR) 6),a (v (L (L I)) 7)])))))
 (.ret [a (v (L (L I)) 4)])))))
def Ze6:Tr:=.ret [a (.o1 (.conv .u64 .u32) (.o2 (.sh false .u64 .u64) (ar .mul (.o1 (.conv .u32 .u64) (v (.int .u32) 0)) (.o1 (.conv .u32 .u64) (v (.int .u32) 1))) (.int .u64 32))),a (.o1 (.conv .u64 .u32) (ar .mul (.o1 (.conv .u32 .u64) (v (.int .u32) 0)) (.o1 (.conv .u32 .u64) (v (.int .u32) 1))))]
def Ze7:Tr:=.ret [a (ar .add (ar .add (ar .mul (.o2 (.sh false .u64 .u64) (v (.int .u64) 0) (.int .u64 32)) (.o2 (.sh false .u64 .u64) (v (.int .u64) 1) (.int .u64 32))) (.o2 (.sh false .u64 .u64) (ar .add (ar .mul (.o2 (.sh false .u64 .u64) (v (.int .u64) 0) (.int .u64 32)) (ar .and (v (.int .u64) 1) (.int .u64 4294967295))) (.o2 (.sh false .u64 .u64) (ar .mul (ar .and (v (.int .u64) 0) (.int .u64 4294967295)) (ar .and (v (.int .u64) 1) (.int .u64 4294967295))) (.int .u64 32))) (.int .u64 32))) (.o2 (.sh false .u64 .u64) (ar .add (ar .and (ar .add (ar .mul (.o2 (.sh false .u64 .u64) (v (.int .u64) 0) (.int .u64 32)) (ar .and (v (.int .u64) 1) (.int .u64 4294967295))) (.o2 (.sh false .u64 .u64) (ar .mul (ar .and (v (.int .u64) 0) (.int .u64 4294967295)) (ar .and (v (.int .u64) 1) (.int .u64 4294967295))) (.int .u64 32))) (.int .u64 4294967295)) (ar .mul (ar .and (v (.int .u64) 0) (.int .u64 4294967295)) (.o2 (.sh false .u64 .u64) (v (.int .u64) 1) (.int .u64 32)))) (.int .u64 32))),a (ar .mul (v (.int .u64) 0) (v (.int .u64) 1))]
def Ze8:Tr:=.call Zca [a (v (.int .u64) 0),a (v (.int .u64) 1)] 100256
 (.ret [a (v (.int .u64) 100256),a (v (.int .u64) 100257)])
def Ze9:Tr:=.ite (lt (v I 1) (c 0))
 (.bad)
 (.call Zcb [a (.o1 (.conv .i64 .u64) (ln (v (L I) 0))),a (.o1 (.conv .i64 .u64) (v I 1))] 100512
 (.ite (cm .gtr (v (.int .u64) 100512) (.int .u64 0))
 (.bad)
 (.ite (cm .gtr (v (.int .u64) 100513) (.int .u64 9223372036854775807))
 (.bad)
 (.guard (le (c 0) (.o1 (.conv .u64 .i64) (v (.int .u64) 100513)))
 (.guard (le (.o1 (.conv .u64 .i64) (v (.int .u64) 100513)) (c 549755813888))
 (.loop [a (.o2 (.mn .i64) (ln (v (L I) 0)) (ln (rep (.o1 (.conv .u64 .i64) (v (.int .u64) 100513)) (z I)))),a (over (rep (.o1 (.conv .u64 .i64) (v (.int .u64) 100513)) (z I)) (v (L I) 0))]
 (.ite (lt (v I 0) (ln (v (L I) 1)))
 (.guard (le (c 0) (v I 0))
 (.guard (le (v I 0) (ln (v (L I) 1)))
 (.guard (le (v I 0) (ln (v (L I) 1)))
 (.guard (le (c 0) (v I 0))
 (.join
 (.jump 0 [a (add (v I 0) (.o2 (.mn .i64) (ln (drop (take (v (L I) 1) (v I 0)) (c 0))) (ln (drop (take (v (L I) 1) (ln (v (L I) 1))) (v I 0))))),a (app (app (take (v (L I) 1) (v I 0)) (over (drop (take (v (L I) 1) (ln (v (L I) 1))) (v I 0)) (drop (take (v (L I) 1) (v I 0)) (c 0)))) (drop (v (L I) 1) (ln (v (L I) 1))))])
 (.jump 0 [a (v I 0),a (v (L I) 1)]))))))
 (.ret [a (v (L I) 1)]))))))))
def Zea:Tr:=.call Zc8 [a (v (L V3) 0),a (v (L TR) 1)] 100384
 (.loop [a (ln (v (L TR) 1)),a (c 0),a (v (L V3) 0),a (v (L TR) 1),a (v (L V3) 0),a (v (L TR) 1),a (v (L I) 2),a (v (L I) 3),a (v (L (L I)) 100384),a (nl (L I))]
 (.ite (lt (v I 1) (v I 0))
 (.call Zcc [a (one (c (-1))),a (ln (v (L (L I)) 8))] 590
 (.loop [a (v I 1),a (v I 0),a (v I 1),a (ln (v (L I) 590)),a (c 0),a (v (L V3) 2),a (v (L TR) 3),a (v (L V3) 4),a (v (L TR) 5),a (v (L I) 6),a (v (L I) 7),a (v (L (L I)) 8),a (v (L (L I)) 9),a (v (L I) 590)]
 (.ite (lt (v I 4) (v I 3))
 (.join
 (.call ZbU [a (v (L V3) 5),a (v (L TR) 6),a (v I 4)] 467
 (.call Zc0 [a (v (L V3) 5),a (v (L TR) 6),a (v (L I) 467),a (v I 0)] 531
 (.ite (v B 532)
 (.call Zc7 [a (v (L V3) 5),a (v (L TR) 6),a (v (L I) 531)] 1235
 (.guard (le (c 0) (v I 4))
 (.guard (lt (v I 4) (ln (v (L I) 13)))
 (.jump 0 [a (v I 0),a (v I 1),a (v I 2),a (v I 3),a (v I 4),a (v (L V3) 5),a (v (L TR) 6),a (v (L V3) 7),a (v (L TR) 8),a (v (L I) 9),a (v (L I) 10),a (v (L (L I)) 11),a (v (L (L I)) 12),a (st (v (L I) 13) (v I 4) (v I 1235))]))))
 (.jump 0 [a (v I 0),a (v I 1),a (v I 2),a (v I 3),a (v I 4),a (v (L V3) 5),a (v (L TR) 6),a (v (L V3) 7),a (v (L TR) 8),a (v (L I) 9),a (v (L I) 10),a (v (L (L I)) 11),a (v (L (L I)) 12),a (v (L I) 13)]))))
 (.jump 0 [a (v I 0),a (v I 1),a (v I 2),a (v I 3),a (add (v I 4) (c 1)),a (v (L V3) 5),a (v (L TR) 6),a (v (L V3) 7),a (v (L TR) 8),a (v (L I) 9),a (v (L I) 10),a (v (L (L I)) 11),a (v (L (L I)) 12),a (v (L I) 13)]))
 (.guard (le (ln (v (L (L I)) 12)) (c 549755813888))
 (.guard (le (ln (one (v (L I) 13))) (c 549755813888))
 (.jump 1 [a (v I 1),a (add (v I 2) (c 1)),a (v (L V3) 5),a (v (L TR) 6),a (v (L V3) 7),a (v (L TR) 8),a (v (L I) 9),a (v (L I) 10),a (v (L (L I)) 11),a (app (v (L (L I)) 12) (one (v (L I) 13)))]))))))
 (.ret [a (pr (pr (v (L V3) 4) (v (L TR) 5)) (pr (v (L (L I)) 8) (pr (v (L I) 6) (pr (v (L I) 7) (v (L (L I)) 9)))))])))
def Zeb:Tr:=.loop [a (v (L I) 0),a (v I 1),a (ln (v (L I) 0)),a (c 0)]
 (.ite (lt (v I 3) (v I 2))
 (.guard (le (c 0) (v I 3))
 (.guard (lt (v I 3) (ln (v (L I) 0)))
 (.ite (eq (v I 1) (ix (v (L I) 0) (v I 3)))
 (.ret [a (v I 3)])
 (.jump 0 [a (v (L I) 0),a (v I 1),a (v I 2),a (add (v I 3) (c 1))]))))
 (.ret [a (c (-1))]))
def Zec:Tr:=.ite (lt (ln (v (L I) 0)) (c 1))
 (.bad)
 (.guard (lt (c 0) (ln (v (L I) 0)))
 (.loop [a (v (L I) 0),a (ix (v (L I) 0) (c 0)),a (c 1)]
 (.ite (lt (v I 2) (ln (v (L I) 0)))
 (.guard (le (c 0) (v I 2))
 (.guard (lt (v I 2) (ln (v (L I) 0)))
 (.jump 0 [a (v (L I) 0),a (.o2 (.mn .i64) (v I 1) (ix (v (L I) 0) (v I 2))),a (add (v I 2) (c 1))])))
 (.ret [a (v I 1)]))))
def Zed:Tr:=.guard (le (c 0) (v I 0))
 (.guard (lt (v I 0) (ln (v (L I) 2)))
 (.guard (le (c 0) (v I 0))
 (.guard (lt (v I 0) (ln (v (L I) 3)))
 (.join
 (.jump 0 [a (v I 0),a (add (v I 1) (c 1)),a (v (L (L I)) 5),a (v (L B) 6),a (st (v (L I) 2) (v I 0) (add (v I 1) (c 1))),a (st (v (L I) 3) (v I 0) (add (v I 1) (c 1))),a (v (L I) 4),a (v (L I) 8)])
 (.guard (le (ln (v (L I) 6)) (c 549755813888))
 (.guard (le (ln (one (v I 0))) (c 549755813888))
 (.guard (le (c 0) (v I 0))
 (.guard (lt (v I 0) (ln (v (L (L I)) 2)))
 (.loop [a (v I 0),a (ix (v (L (L I)) 2) (v I 0)),a (ln (ix (v (L (L I)) 2) (v I 0))),a (c 0),a (v I 1),a (v (L (L I)) 2),a (v (L B) 3),a (v (L I) 4),a (v (L I) 5),a (app (v (L I) 6) (one (v I 0))),a (v (L I) 7)]
 (.ite (lt (v I 3) (v I 2))
 (.join
 (.guard (le (c 0) (v I 3))
 (.guard (lt (v I 3) (ln (v (L I) 1)))
 (.guard (le (c 0) (ix (v (L I) 1) (v I 3)))
 (.guard (lt (ix (v (L I) 1) (v I 3)) (ln (v (L B) 6)))
 (.ite (nt (ix (v (L B) 6) (ix (v (L I) 1) (v I 3))))
 (.jump 0 [a (v I 0),a (v (L I) 1),a (v I 2),a (v I 3),a (v I 4),a (v (L (L I)) 5),a (v (L B) 6),a (v (L I) 7),a (v (L I) 8),a (v (L I) 9),a (v (L I) 10)])
 (.guard (le (c 0) (ix (v (L I) 1) (v I 3)))
 (.guard (lt (ix (v (L I) 1) (v I 3)) (ln (v (L I) 7)))
 (.ite (eq (ix (v (L I) 7) (ix (v (L I) 1) (v I 3))) (c 0))
 (.call Zcg [a (ix (v (L I) 1) (v I 3)),a (v I 4),a (v (L I) 7),a (v (L I) 8),a (v (L I) 9),a (v (L (L I)) 5),a (v (L B) 6),a (k true),a (v (L I) 10)] 1047
 (.guard (le (c 0) (v I 0))
 (.guard (lt (v I 0) (ln (v (L I) 1049)))
 (.guard (le (c 0) (ix (v (L I) 1) (v I 3)))
 (.guard (lt (ix (v (L I) 1) (v I 3)) (ln (v (L I) 1049)))
 (.guard (le (c 0) (v I 0))
 (.guard (lt (v I 0) (ln (v (L I) 1049)))
 (.jump 0 [a (v I 0),a (v (L I) 1),a (v I 2),a (v I 3),a (v I 1047),a (v (L (L I)) 5),a (v (L B) 6),a (v (L I) 1048),a (st (v (L I) 1049) (v I 0) (.o2 (.mn .i64) (ix (v (L I) 1049) (v I 0)) (ix (v (L I) 1049) (ix (v (L I) 1) (v I 3))))),a (v (L I) 1050),a (v (L I) 1054)]))))))))
 (.guard (le (c 0) (ix (v (L I) 1) (v I 3)))
 (.guard (lt (ix (v (L I) 1) (v I 3)) (ln (v (L I) 10)))
 (.ite (lt (ix (v (L I) 10) (ix (v (L I) 1) (v I 3))) (c 0))
 (.guard (le (c 0) (v I 0))
 (.guard (lt (v I 0) (ln (v (L I) 8)))
 (.guard (le (c 0) (ix (v (L I) 1) (v I 3)))
 (.guard (lt (ix (v (L I) 1) (v I 3)) (ln (v (L I) 7)))
 (.guard (le (c 0) (v I 0))
 (.guard (lt (v I 0) (ln (v (L I) 8)))
 (.jump 0 [a (v I 0),a (v (L I) 1),a (v I 2),a (v I 3),a (v I 4),a (v (L (L I)) 5),a (v (L B) 6),a (v (L I) 7),a (st (v (L I) 8) (v I 0) (.o2 (.mn .i64) (ix (v (L I) 8) (v I 0)) (ix (v (L I) 7) (ix (v (L I) 1) (v I 3))))),a (v (L I) 9),a (v (L I) 10)])))))))
 (.jump 0 [a (v I 0),a (v (L I) 1),a (v I 2),a (v I 3),a (v I 4),a (v (L (L I)) 5),a (v (L B) 6),a (v (L I) 7),a (v (L I) 8),a (v (L I) 9),a (v (L I) 10)]))))))))))))
 (.jump 0 [a (v I 0),a (v (L I) 1),a (v I 2),a (add (v I 3) (c 1)),a (v I 4),a (v (L (L I)) 5),a (v (L B) 6),a (v (L I) 7),a (v (L I) 8),a (v (L I) 9),a (v (L I) 10)]))
 (.guard (le (c 0) (v I 0))
 (.guard (lt (v I 0) (ln (v (L I) 8)))
 (.guard (le (c 0) (v I 0))
 (.guard (lt (v I 0) (ln (v (L I) 7)))
 (.ite (ne (ix (v (L I) 8) (v I 0)) (ix (v (L I) 7) (v I 0)))
 (.ret [a (v I 4),a (v (L I) 7),a (v (L I) 8),a (v (L I) 9),a (v (L (L I)) 5),a (v (L B) 6),a (k true),a (v (L I) 10)])
 (.call Zce [a (v (L I) 9),a (v I 0)] 791
 (.guard (le (c 0) (v I 791))
 (.guard (le (v I 791) (ln (v (L I) 9)))
 (.call Zcf [a (drop (take (v (L I) 9) (ln (v (L I) 9))) (v I 791))] 1111
 (.guard (le (c 0) (v I 791))
 (.guard (le (v I 791) (ln (v (L I) 9)))
 (.loop [a (v I 791),a (v I 1111),a (v I 791),a (ln (v (L I) 9)),a (ln (drop (take (v (L I) 9) (ln (v (L I) 9))) (v I 791))),a (c 0),a (v I 4),a (v (L (L I)) 5),a (v (L B) 6),a (v (L I) 7),a (v (L I) 8),a (v (L I) 9),a (v (L I) 10)]
 (.ite (lt (v I 5) (v I 4))
 (.guard (le (c 0) (v I 5))
 (.guard (lt (v I 5) (ln (drop (take (v (L I) 11) (v I 3)) (v I 2))))
 (.guard (le (v I 3) (c 549755813888))
 (.guard (le (c 0) (ix (v (L I) 11) (add (v I 2) (v I 5))))
 (.guard (lt (ix (v (L I) 11) (add (v I 2) (v I 5))) (ln (v (L I) 12)))
 (.jump 0 [a (v I 0),a (v I 1),a (v I 2),a (v I 3),a (v I 4),a (add (v I 5) (c 1)),a (v I 6),a (v (L (L I)) 7),a (v (L B) 8),a (v (L I) 9),a (v (L I) 10),a (v (L I) 11),a (st (v (L I) 12) (ix (v (L I) 11) (add (v I 2) (v I 5))) (v I 1))]))))))
 (.guard (le (v I 0) (ln (v (L I) 11)))
 (.guard (le (c 0) (v I 0))
 (.ret [a (v I 6),a (v (L I) 9),a (v (L I) 10),a (take (v (L I) 11) (v I 0)),a (v (L (L I)) 7),a (v (L B) 8),a (k true),a (v (L I) 12)]))))))))))))))))))))))))))
def Zee:Tr:=.guard (le (c 0) (ln (v (L (L I)) 0)))
 (.guard (le (ln (v (L (L I)) 0)) (c 549755813888))
 (.guard (le (c 0) (ln (v (L (L I)) 0)))
 (.guard (le (ln (v (L (L I)) 0)) (c 549755813888))
 (.join
 (.jump 0 [a (v (L (L I)) 0),a (v (L B) 1),a (rep (ln (v (L (L I)) 0)) (z I)),a (rep (ln (v (L (L I)) 0)) (z I))])
 (.call Zcc [a (one (c (-1))),a (ln (v (L (L I)) 0))] 202
 (.loop [a (ln (v (L (L I)) 0)),a (c 0),a (v (L B) 1),a (v (L I) 2),a (v (L I) 202),a (nl I),a (c 0),a (v (L I) 3),a (v (L (L I)) 0)]
 (.ite (lt (v I 1) (v I 0))
 (.join
 (.guard (le (c 0) (v I 1))
 (.guard (lt (v I 1) (ln (v (L B) 2)))
 (.ite (ix (v (L B) 2) (v I 1))
 (.guard (le (c 0) (v I 1))
 (.guard (lt (v I 1) (ln (v (L I) 3)))
 (.ite (eq (ix (v (L I) 3) (v I 1)) (c 0))
 (.call Zcg [a (v I 1),a (v I 6),a (v (L I) 3),a (v (L I) 7),a (v (L I) 5),a (v (L (L I)) 8),a (v (L B) 2),a (k true),a (v (L I) 4)] 1045
 (.jump 0 [a (v I 0),a (v I 1),a (v (L B) 2),a (v (L I) 1046),a (v (L I) 1052),a (v (L I) 1048),a (v I 1045),a (v (L I) 1047),a (v (L (L I)) 8)]))
 (.jump 0 [a (v I 0),a (v I 1),a (v (L B) 2),a (v (L I) 3),a (v (L I) 4),a (v (L I) 5),a (v I 6),a (v (L I) 7),a (v (L (L I)) 8)]))))
 (.jump 0 [a (v I 0),a (v I 1),a (v (L B) 2),a (v (L I) 3),a (v (L I) 4),a (v (L I) 5),a (v I 6),a (v (L I) 7),a (v (L (L I)) 8)]))))
 (.jump 0 [a (v I 0),a (add (v I 1) (c 1)),a (v (L B) 2),a (v (L I) 3),a (v (L I) 4),a (v (L I) 5),a (v I 6),a (v (L I) 7),a (v (L (L I)) 8)]))
 (.ret [a (v (L I) 4)]))))))))
def Zef:Tr:=.loop [a (v (L B) 0),a (ln (v (L B) 0)),a (c 0),a (nl I)]
 (.ite (lt (v I 2) (v I 1))
 (.join
 (.guard (le (c 0) (v I 2))
 (.guard (lt (v I 2) (ln (v (L B) 0)))
 (.ite (ix (v (L B) 0) (v I 2))
 (.guard (le (ln (v (L I) 3)) (c 549755813888))
 (.guard (le (ln (one (v I 2))) (c 549755813888))
 (.jump 0 [a (v (L B) 0),a (v I 1),a (v I 2),a (app (v (L I) 3) (one (v I 2)))])))
 (.jump 0 [a (v (L B) 0),a (v I 1),a (v I 2),a (v (L I) 3)]))))
 (.jump 0 [a (v (L B) 0),a (v I 1),a (add (v I 2) (c 1)),a (v (L I) 3)]))
 (.call ZbZ [a (v (L I) 3)] 133
 (.ret [a (v (L I) 133)])))
def Zeg:Tr:=.call Zce [a (v (L I) 0),a (v I 1)] 100192
 (.ret [a (ge (v I 100192) (c 0))])
def Zeh:Tr:=.loop [a (v I 1),a (v (L B) 2),a (v (L B) 2),a (ln (v (L B) 2)),a (c 0),a (f (f (v (P (P (L V3) (L TR)) (P (L (L I)) (P (L I) (P (L I) (L (L I)))))) 0))),a (s (f (v (P (P (L V3) (L TR)) (P (L (L I)) (P (L I) (P (L I) (L (L I)))))) 0))),a (f (s (v (P (P (L V3) (L TR)) (P (L (L I)) (P (L I) (P (L I) (L (L I)))))) 0))),a (f (s (s (v (P (P (L V3) (L TR)) (P (L (L I)) (P (L I) (P (L I) (L (L I)))))) 0)))),a (f (s (s (s (v (P (P (L V3) (L TR)) (P (L (L I)) (P (L I) (P (L I) (L (L I)))))) 0))))),a (s (s (s (s (v (P (P (L V3) (L TR)) (P (L (L I)) (P (L I) (P (L I) (L (L I)))))) 0)))))]
 (.ite (lt (v I 4) (v I 3))
 (.join
 (.guard (le (c 0) (v I 4))
 (.guard (lt (v I 4) (ln (v (L B) 2)))
 (.ite (ix (v (L B) 2) (v I 4))
 (.guard (le (c 0) (v I 0))
 (.guard (lt (v I 0) (ln (v (L (L I)) 10)))
 (.guard (le (c 0) (v I 4))
 (.guard (lt (v I 4) (ln (ix (v (L (L I)) 10) (v I 0))))
 (.ite (ge (ix (ix (v (L (L I)) 10) (v I 0)) (v I 4)) (c 0))
 (.guard (le (c 0) (v I 0))
 (.guard (lt (v I 0) (ln (v (L (L I)) 10)))
 (.guard (le (c 0) (v I 4))
 (.guard (lt (v I 4) (ln (ix (v (L (L I)) 10) (v I 0))))
 (.guard (le (c 0) (ix (ix (v (L (L I)) 10) (v I 0)) (v I 4)))
 (.guard (lt (ix (ix (v (L (L I)) 10) (v I 0)) (v I 4)) (ln (v (L B) 1)))
 (.ite (ix (v (L B) 1) (ix (ix (v (L (L I)) 10) (v I 0)) (v I 4)))
 (.ret [a (k true),a (pr (pr (v (L V3) 5) (v (L TR) 6)) (pr (v (L (L I)) 7) (pr (v (L I) 8) (pr (v (L I) 9) (v (L (L I)) 10)))))])
 (.jump 0 [a (v I 0),a (v (L B) 1),a (v (L B) 2),a (v I 3),a (v I 4),a (v (L V3) 5),a (v (L TR) 6),a (v (L (L I)) 7),a (v (L I) 8),a (v (L I) 9),a (v (L (L I)) 10)]))))))))
 (.jump 0 [a (v I 0),a (v (L B) 1),a (v (L B) 2),a (v I 3),a (v I 4),a (v (L V3) 5),a (v (L TR) 6),a (v (L (L I)) 7),a (v (L I) 8),a (v (L I) 9),a (v (L (L I)) 10)]))))))
 (.jump 0 [a (v I 0),a (v (L B) 1),a (v (L B) 2),a (v I 3),a (v I 4),a (v (L V3) 5),a (v (L TR) 6),a (v (L (L I)) 7),a (v (L I) 8),a (v (L I) 9),a (v (L (L I)) 10)]))))
 (.jump 0 [a (v I 0),a (v (L B) 1),a (v (L B) 2),a (v I 3),a (add (v I 4) (c 1)),a (v (L V3) 5),a (v (L TR) 6),a (v (L (L I)) 7),a (v (L I) 8),a (v (L I) 9),a (v (L (L I)) 10)]))
 (.ret [a (k false),a (pr (pr (v (L V3) 5) (v (L TR) 6)) (pr (v (L (L I)) 7) (pr (v (L I) 8) (pr (v (L I) 9) (v (L (L I)) 10)))))]))
def Zei:Tr:=.guard (nt (emp (v (L B) 0)))
 (.guard (le (ln (nl B)) (c 549755813888))
 (.guard (le (ln (v (L B) 0)) (c 549755813888))
 (.ret [a (app (nl B) (v (L B) 0))])))
def Zej:Tr:=.call Zch [a (f (s (v (P (P (L V3) (L TR)) (P (L (L I)) (P (L I) (P (L I) (L (L I)))))) 0))),a (v (L B) 1)] 100512
 (.loop [a (ln (f (s (v (P (P (L V3) (L TR)) (P (L (L I)) (P (L I) (P (L I) (L (L I)))))) 0)))),a (c 0),a (f (f (v (P (P (L V3) (L TR)) (P (L (L I)) (P (L I) (P (L I) (L (L I)))))) 0))),a (s (f (v (P (P (L V3) (L TR)) (P (L (L I)) (P (L I) (P (L I) (L (L I)))))) 0))),a (f (s (v (P (P (L V3) (L TR)) (P (L (L I)) (P (L I) (P (L I) (L (L I)))))) 0))),a (f (s (s (v (P (P (L V3) (L TR)) (P (L (L I)) (P (L I) (P (L I) (L (L I)))))) 0)))),a (f (s (s (s (v (P (P (L V3) (L TR)) (P (L (L I)) (P (L I) (P (L I) (L (L I)))))) 0))))),a (s (s (s (s (v (P (P (L V3) (L TR)) (P (L (L I)) (P (L I) (P (L I) (L (L I)))))) 0))))),a (nl (L I)),a (v (L I) 100512)]
 (.ite (lt (v I 1) (v I 0))
 (.join
 (.guard (le (c 0) (v I 1))
 (.guard (lt (v I 1) (ln (v (L I) 9)))
 (.ite (ne (ix (v (L I) 9) (v I 1)) (v I 1))
 (.jump 0 [a (v I 0),a (v I 1),a (v (L V3) 2),a (v (L TR) 3),a (v (L (L I)) 4),a (v (L I) 5),a (v (L I) 6),a (v (L (L I)) 7),a (v (L (L I)) 8),a (v (L I) 9)])
 (.guard (le (c 0) (ln (v (L (L I)) 4)))
 (.guard (le (ln (v (L (L I)) 4)) (c 549755813888))
 (.loop [a (v I 1),a (v I 0),a (v I 1),a (ln (rep (ln (v (L (L I)) 4)) (z B))),a (c 0),a (v (L V3) 2),a (v (L TR) 3),a (v (L (L I)) 4),a (v (L I) 5),a (v (L I) 6),a (v (L (L I)) 7),a (v (L (L I)) 8),a (v (L I) 9),a (rep (ln (v (L (L I)) 4)) (z B))]
 (.ite (lt (v I 4) (v I 3))
 (.guard (le (c 0) (v I 4))
 (.guard (lt (v I 4) (ln (v (L I) 12)))
 (.guard (le (c 0) (v I 4))
 (.guard (lt (v I 4) (ln (v (L B) 13)))
 (.jump 0 [a (v I 0),a (v I 1),a (v I 2),a (v I 3),a (add (v I 4) (c 1)),a (v (L V3) 5),a (v (L TR) 6),a (v (L (L I)) 7),a (v (L I) 8),a (v (L I) 9),a (v (L (L I)) 10),a (v (L (L I)) 11),a (v (L I) 12),a (st (v (L B) 13) (v I 4) (eq (ix (v (L I) 12) (v I 4)) (v I 0)))])))))
 (.call Zci [a (v (L B) 13)] 148
 (.join
 (.ite (eq (ln (v (L I) 148)) (c 1))
 (.guard (le (c 0) (v I 0))
 (.guard (lt (v I 0) (ln (v (L (L I)) 7)))
 (.ite (gt (ln (ix (v (L (L I)) 7) (v I 0))) (c 0))
 (.guard (le (c 0) (v I 0))
 (.guard (lt (v I 0) (ln (v (L (L I)) 7)))
 (.call Zcj [a (ix (v (L (L I)) 7) (v I 0)),a (v I 0)] 1812
 (.ite (nt (v B 1812))
 (.jump 2 [a (v I 1),a (v I 2),a (v (L V3) 5),a (v (L TR) 6),a (v (L (L I)) 7),a (v (L I) 8),a (v (L I) 9),a (v (L (L I)) 10),a (v (L (L I)) 11),a (v (L I) 12)])
 (.jump 0 [a (v I 1),a (v I 2),a (v (L V3) 5),a (v (L TR) 6),a (v (L (L I)) 7),a (v (L I) 8),a (v (L I) 9),a (v (L (L I)) 10),a (v (L (L I)) 11),a (v (L I) 12),a (v (L B) 13),a (v (L I) 148)])))))
 (.jump 0 [a (v I 1),a (v I 2),a (v (L V3) 5),a (v (L TR) 6),a (v (L (L I)) 7),a (v (L I) 8),a (v (L I) 9),a (v (L (L I)) 10),a (v (L (L I)) 11),a (v (L I) 12),a (v (L B) 13),a (v (L I) 148)]))))
 (.jump 0 [a (v I 1),a (v I 2),a (v (L V3) 5),a (v (L TR) 6),a (v (L (L I)) 7),a (v (L I) 8),a (v (L I) 9),a (v (L (L I)) 10),a (v (L (L I)) 11),a (v (L I) 12),a (v (L B) 13),a (v (L I) 148)]))
 (.join
 (.loop [a (v (L I) 5),a (ln (v (L I) 5)),a (c 0),a (v I 0),a (v I 1),a (v (L V3) 2),a (v (L TR) 3),a (v (L (L I)) 4),a (v (L I) 5),a (v (L I) 6),a (v (L (L I)) 7),a (v (L B) 10),a (v (L I) 11),a (v (L (L I)) 8),a (v (L I) 9)]
 (.ite (lt (v I 2) (v I 1))
 (.join
 (.guard (le (c 0) (v I 2))
 (.guard (lt (v I 2) (ln (v (L I) 0)))
 (.call Zck [a (pr (pr (v (L V3) 5) (v (L TR) 6)) (pr (v (L (L I)) 7) (pr (v (L I) 8) (pr (v (L I) 9) (v (L (L I)) 10))))),a (ix (v (L I) 0) (v I 2)),a (v (L B) 11)] 919
 (.ite (nt (v B 919))
 (.loop [a (ln (v (L I) 12)),a (c 0),a (v (L I) 0),a (v I 2),a (v I 1),a (v I 2),a (v I 3),a (v I 4),a (v (L V3) 5),a (v (L TR) 6),a (v (L (L I)) 7),a (v (L I) 8),a (v (L I) 9),a (v (L (L I)) 10),a (v (L I) 12),a (ix (v (L I) 0) (v I 2)),a (v (L B) 11),a (v (L (L I)) 13),a (v (L I) 14)]
 (.ite (lt (v I 1) (v I 0))
 (.guard (le (c 0) (v I 1))
 (.guard (lt (v I 1) (ln (v (L I) 14)))
 (.guard (le (c 0) (v I 15))
 (.guard (lt (v I 15) (ln (v (L (L I)) 13)))
 (.guard (le (c 0) (ix (v (L I) 14) (v I 1)))
 (.guard (lt (ix (v (L I) 14) (v I 1)) (ln (ix (v (L (L I)) 13) (v I 15))))
 (.ite (lt (ix (ix (v (L (L I)) 13) (v I 15)) (ix (v (L I) 14) (v I 1))) (c 0))
 (.ite (nt (ge (v I 1) (c 0)))
 (.jump 3 [a (ge (v I 3) (c 0)),a (v I 6),a (v I 7),a (v (L V3) 8),a (v (L TR) 9),a (v (L (L I)) 10),a (v (L I) 11),a (v (L I) 12),a (v (L (L I)) 13),a (v (L (L I)) 17),a (v (L I) 18),a (v (L B) 16),a (v (L I) 14)])
 (.jump 1 [a (v (L I) 2),a (v I 4),a (v I 5),a (v I 6),a (v I 7),a (v (L V3) 8),a (v (L TR) 9),a (v (L (L I)) 10),a (v (L I) 11),a (v (L I) 12),a (v (L (L I)) 13),a (v (L B) 16),a (v (L I) 14),a (v (L (L I)) 17),a (v (L I) 18)]))
 (.jump 0 [a (v I 0),a (add (v I 1) (c 1)),a (v (L I) 2),a (v I 3),a (v I 4),a (v I 5),a (v I 6),a (v I 7),a (v (L V3) 8),a (v (L TR) 9),a (v (L (L I)) 10),a (v (L I) 11),a (v (L I) 12),a (v (L (L I)) 13),a (v (L I) 14),a (v I 15),a (v (L B) 16),a (v (L (L I)) 17),a (v (L I) 18)]))))))))
 (.ite (nt (ge (c (-1)) (c 0)))
 (.jump 3 [a (ge (v I 3) (c 0)),a (v I 6),a (v I 7),a (v (L V3) 8),a (v (L TR) 9),a (v (L (L I)) 10),a (v (L I) 11),a (v (L I) 12),a (v (L (L I)) 13),a (v (L (L I)) 17),a (v (L I) 18),a (v (L B) 16),a (v (L I) 14)])
 (.jump 1 [a (v (L I) 2),a (v I 4),a (v I 5),a (v I 6),a (v I 7),a (v (L V3) 8),a (v (L TR) 9),a (v (L (L I)) 10),a (v (L I) 11),a (v (L I) 12),a (v (L (L I)) 13),a (v (L B) 16),a (v (L I) 14),a (v (L (L I)) 17),a (v (L I) 18)]))))
 (.jump 0 [a (v (L I) 0),a (v I 1),a (v I 2),a (v I 3),a (v I 4),a (v (L V3) 5),a (v (L TR) 6),a (v (L (L I)) 7),a (v (L I) 8),a (v (L I) 9),a (v (L (L I)) 10),a (v (L B) 11),a (v (L I) 12),a (v (L (L I)) 13),a (v (L I) 14)])))))
 (.jump 0 [a (v (L I) 0),a (v I 1),a (add (v I 2) (c 1)),a (v I 3),a (v I 4),a (v (L V3) 5),a (v (L TR) 6),a (v (L (L I)) 7),a (v (L I) 8),a (v (L I) 9),a (v (L (L I)) 10),a (v (L B) 11),a (v (L I) 12),a (v (L (L I)) 13),a (v (L I) 14)]))
 (.jump 1 [a (ge (c (-1)) (c 0)),a (v I 3),a (v I 4),a (v (L V3) 5),a (v (L TR) 6),a (v (L (L I)) 7),a (v (L I) 8),a (v (L I) 9),a (v (L (L I)) 10),a (v (L (L I)) 13),a (v (L I) 14),a (v (L B) 11),a (v (L I) 12)])))
 (.ite (v B 0)
 (.jump 1 [a (v I 1),a (v I 2),a (v (L V3) 3),a (v (L TR) 4),a (v (L (L I)) 5),a (v (L I) 6),a (v (L I) 7),a (v (L (L I)) 8),a (v (L (L I)) 9),a (v (L I) 10)])
 (.call Zcl [a (v (L B) 11)] 149
 (.loop [a (k false),a (v I 1),a (v I 2),a (v (L I) 7),a (ln (v (L I) 7)),a (c 0),a (v (L V3) 3),a (v (L TR) 4),a (v (L (L I)) 5),a (v (L I) 6),a (v (L I) 7),a (v (L (L I)) 8),a (v (L (L I)) 9),a (v (L I) 10),a (v (L B) 11),a (v (L I) 12),a (v (L B) 149)]
 (.ite (lt (v I 5) (v I 4))
 (.join
 (.guard (le (c 0) (v I 5))
 (.guard (lt (v I 5) (ln (v (L I) 3)))
 (.call Zck [a (pr (pr (v (L V3) 6) (v (L TR) 7)) (pr (v (L (L I)) 8) (pr (v (L I) 9) (pr (v (L I) 10) (v (L (L I)) 11))))),a (ix (v (L I) 3) (v I 5)),a (v (L B) 14)] 474
 (.ite (v B 474)
 (.jump 0 [a (v B 0),a (v I 1),a (v I 2),a (v (L I) 3),a (v I 4),a (v I 5),a (v (L V3) 6),a (v (L TR) 7),a (v (L (L I)) 8),a (v (L I) 9),a (v (L I) 10),a (v (L (L I)) 11),a (v (L (L I)) 12),a (v (L I) 13),a (v (L B) 14),a (v (L I) 15),a (v (L B) 16)])
 (.loop [a (v B 0),a (ix (v (L I) 3) (v I 5)),a (v I 1),a (v I 2),a (v (L I) 3),a (v I 4),a (v I 5),a (ln (v (L I) 15)),a (c 0),a (v (L V3) 6),a (v (L TR) 7),a (v (L (L I)) 8),a (v (L I) 9),a (v (L I) 10),a (v (L (L I)) 11),a (v (L (L I)) 12),a (v (L I) 13),a (v (L B) 14),a (v (L I) 15),a (v (L B) 16)]
 (.ite (lt (v I 8) (v I 7))
 (.join
 (.guard (le (c 0) (v I 8))
 (.guard (lt (v I 8) (ln (v (L I) 18)))
 (.guard (le (c 0) (v I 1))
 (.guard (lt (v I 1) (ln (v (L (L I)) 14)))
 (.guard (le (c 0) (ix (v (L I) 18) (v I 8)))
 (.guard (lt (ix (v (L I) 18) (v I 8)) (ln (ix (v (L (L I)) 14) (v I 1))))
 (.ite (ge (ix (ix (v (L (L I)) 14) (v I 1)) (ix (v (L I) 18) (v I 8))) (c 0))
 (.guard (le (c 0) (ix (v (L I) 18) (v I 8)))
 (.guard (lt (ix (v (L I) 18) (v I 8)) (ln (v (L B) 19)))
 (.jump 0 [a (k true),a (v I 1),a (v I 2),a (v I 3),a (v (L I) 4),a (v I 5),a (v I 6),a (v I 7),a (v I 8),a (v (L V3) 9),a (v (L TR) 10),a (v (L (L I)) 11),a (v (L I) 12),a (v (L I) 13),a (v (L (L I)) 14),a (v (L (L I)) 15),a (v (L I) 16),a (v (L B) 17),a (v (L I) 18),a (st (v (L B) 19) (ix (v (L I) 18) (v I 8)) (k false))])))
 (.jump 0 [a (v B 0),a (v I 1),a (v I 2),a (v I 3),a (v (L I) 4),a (v I 5),a (v I 6),a (v I 7),a (v I 8),a (v (L V3) 9),a (v (L TR) 10),a (v (L (L I)) 11),a (v (L I) 12),a (v (L I) 13),a (v (L (L I)) 14),a (v (L (L I)) 15),a (v (L I) 16),a (v (L B) 17),a (v (L I) 18),a (v (L B) 19)]))))))))
 (.jump 0 [a (v B 0),a (v I 1),a (v I 2),a (v I 3),a (v (L I) 4),a (v I 5),a (v I 6),a (v I 7),a (add (v I 8) (c 1)),a (v (L V3) 9),a (v (L TR) 10),a (v (L (L I)) 11),a (v (L I) 12),a (v (L I) 13),a (v (L (L I)) 14),a (v (L (L I)) 15),a (v (L I) 16),a (v (L B) 17),a (v (L I) 18),a (v (L B) 19)]))
 (.jump 1 [a (v B 0),a (v I 2),a (v I 3),a (v (L I) 4),a (v I 5),a (v I 6),a (v (L V3) 9),a (v (L TR) 10),a (v (L (L I)) 11),a (v (L I) 12),a (v (L I) 13),a (v (L (L I)) 14),a (v (L (L I)) 15),a (v (L I) 16),a (v (L B) 17),a (v (L I) 18),a (v (L B) 19)])))))))
 (.jump 0 [a (v B 0),a (v I 1),a (v I 2),a (v (L I) 3),a (v I 4),a (add (v I 5) (c 1)),a (v (L V3) 6),a (v (L TR) 7),a (v (L (L I)) 8),a (v (L I) 9),a (v (L I) 10),a (v (L (L I)) 11),a (v (L (L I)) 12),a (v (L I) 13),a (v (L B) 14),a (v (L I) 15),a (v (L B) 16)]))
 (.ite (v B 0)
 (.call Zcm [a (pr (pr (v (L V3) 6) (v (L TR) 7)) (pr (v (L (L I)) 8) (pr (v (L I) 9) (pr (v (L I) 10) (v (L (L I)) 11))))),a (v (L B) 16)] 346
 (.guard (le (ln (v (L (L I)) 12)) (c 549755813888))
 (.guard (le (ln (v (L (L I)) 346)) (c 549755813888))
 (.jump 2 [a (v I 1),a (v I 2),a (v (L V3) 6),a (v (L TR) 7),a (v (L (L I)) 8),a (v (L I) 9),a (v (L I) 10),a (v (L (L I)) 11),a (app (v (L (L I)) 12) (v (L (L I)) 346)),a (v (L I) 13)]))))
 (.guard (le (ln (v (L (L I)) 12)) (c 549755813888))
 (.guard (le (ln (one (v (L I) 15))) (c 549755813888))
 (.jump 2 [a (v I 1),a (v I 2),a (v (L V3) 6),a (v (L TR) 7),a (v (L (L I)) 8),a (v (L I) 9),a (v (L I) 10),a (v (L (L I)) 11),a (app (v (L (L I)) 12) (one (v (L I) 15))),a (v (L I) 13)]))))))))))))))))))
 (.jump 0 [a (v I 0),a (add (v I 1) (c 1)),a (v (L V3) 2),a (v (L TR) 3),a (v (L (L I)) 4),a (v (L I) 5),a (v (L I) 6),a (v (L (L I)) 7),a (v (L (L I)) 8),a (v (L I) 9)]))
 (.ret [a (v (L (L I)) 8),a (pr (pr (v (L V3) 2) (v (L TR) 3)) (pr (v (L (L I)) 4) (pr (v (L I) 5) (pr (v (L I) 6) (v (L (L I)) 7)))))])))
def Zek:Tr:=.join
 (.ite (gt (ln (v (L U) 0)) (c 2000))
 (.guard (le (c 2000) (ln (re false (v (L U) 0))))
 (.jump 0 [a (take (re false (v (L U) 0)) (c 2000))]))
 (.jump 0 [a (v (L U) 0)]))
 (.ret [a (pr (v (L U) 0) (c 0))])
def Zel:Tr:=.ite (lt (v I 1) (c 1))
 (.ret [a (c 0),a (pr (f (v (P (L U) I) 0)) (add (s (v (P (L U) I) 0)) (c 1)))])
 (.ite (eq (ln (f (v (P (L U) I) 0))) (c 0))
 (.ret [a (c 0),a (pr (f (v (P (L U) I) 0)) (add (s (v (P (L U) I) 0)) (c 1)))])
 (.ite (lt (sub (add (s (v (P (L U) I) 0)) (c 1)) (c 1)) (ln (f (v (P (L U) I) 0))))
 (.guard (le (c 0) (sub (add (s (v (P (L U) I) 0)) (c 1)) (c 1)))
 (.guard (lt (sub (add (s (v (P (L U) I) 0)) (c 1)) (c 1)) (ln (f (v (P (L U) I) 0))))
 (.guard (ne (v I 1) (c 0))
 (.ret [a (rem (.o1 (.conv .u8 .i64) (ix (f (v (P (L U) I) 0)) (sub (add (s (v (P (L U) I) 0)) (c 1)) (c 1)))) (v I 1)),a (pr (f (v (P (L U) I) 0)) (add (s (v (P (L U) I) 0)) (c 1)))]))))
 (.guard (ne (ln (f (v (P (L U) I) 0))) (c 0))
 (.guard (le (c 0) (rem (sub (add (s (v (P (L U) I) 0)) (c 1)) (c 1)) (ln (f (v (P (L U) I) 0)))))
 (.guard (lt (rem (sub (add (s (v (P (L U) I) 0)) (c 1)) (c 1)) (ln (f (v (P (L U) I) 0)))) (ln (f (v (P (L U) I) 0))))
 (.guard (ne (ln (f (v (P (L U) I) 0))) (c 0))
 (.guard (le (c 0) (rem (add (mul (sub (add (s (v (P (L U) I) 0)) (c 1)) (c 1)) (c 7)) (c 3)) (ln (f (v (P (L U) I) 0)))))
 (.guard (lt (rem (add (mul (sub (add (s (v (P (L U) I) 0)) (c 1)) (c 1)) (c 7)) (c 3)) (ln (f (v (P (L U) I) 0)))) (ln (f (v (P (L U) I) 0))))
 (.guard (ne (ln (f (v (P (L U) I) 0))) (c 0))
 (.guard (ne (v I 1) (c 0))
 (.ret [a (rem (ar .xor (add (add (add (mul (.o1 (.conv .u8 .i64) (ix (f (v (P (L U) I) 0)) (rem (sub (add (s (v (P (L U) I) 0)) (c 1)) (c 1)) (ln (f (v (P (L U) I) 0)))))) (c 131)) (mul (.o1 (.conv .u8 .i64) (ix (f (v (P (L U) I) 0)) (rem (add (mul (sub (add (s (v (P (L U) I) 0)) (c 1)) (c 1)) (c 7)) (c 3)) (ln (f (v (P (L U) I) 0)))))) (c 1117))) (mul (sub (add (s (v (P (L U) I) 0)) (c 1)) (c 1)) (c 29))) (mul (quo (sub (add (s (v (P (L U) I) 0)) (c 1)) (c 1)) (ln (f (v (P (L U) I) 0)))) (c 53))) (quo (add (add (add (mul (.o1 (.conv .u8 .i64) (ix (f (v (P (L U) I) 0)) (rem (sub (add (s (v (P (L U) I) 0)) (c 1)) (c 1)) (ln (f (v (P (L U) I) 0)))))) (c 131)) (mul (.o1 (.conv .u8 .i64) (ix (f (v (P (L U) I) 0)) (rem (add (mul (sub (add (s (v (P (L U) I) 0)) (c 1)) (c 1)) (c 7)) (c 3)) (ln (f (v (P (L U) I) 0)))))) (c 1117))) (mul (sub (add (s (v (P (L U) I) 0)) (c 1)) (c 1)) (c 29))) (mul (quo (sub (add (s (v (P (L U) I) 0)) (c 1)) (c 1)) (ln (f (v (P (L U) I) 0)))) (c 53))) (c 64))) (v I 1)),a (pr (f (v (P (L U) I) 0)) (add (s (v (P (L U) I) 0)) (c 1)))])))))))))))
def Zem:Tr:=.call ZG [a (pr (f (v (P (L U) I) 0)) (s (v (P (L U) I) 0))),a (ln (v (L I) 1))] 100320
 (.guard (le (c 0) (v I 100320))
 (.guard (lt (v I 100320) (ln (v (L I) 1)))
 (.ret [a (ix (v (L I) 1) (v I 100320)),a (pr (f (v (P (L U) I) 0)) (s (v (P (L U) I) 100321)))])))
def Zen:Tr:=.ret [a (c 1),a (v I 0),a (c 0),a (c 0)]
def Zeo:Tr:=.ret [a (c 0),a (v I 0),a (c 0),a (c 0)]
def Zep:Tr:=.call ZG [a (pr (f (v (P (L U) I) 0)) (s (v (P (L U) I) 0))),a (add (sub (v I 2) (v I 1)) (c 1))] 100704
 (.join
 (.jump 0 [a (v I 4),a (add (v I 1) (v I 100704)),a (f (v (P (L U) I) 0)),a (s (v (P (L U) I) 100705))])
 (.call Zco [a (pr (v (L U) 2) (v I 3)),a (app (one (c 6)) (app (one (c 5)) (app (one (c 5)) (one (c 6)))))] 133
 (.call Zcp [a (v I 0)] 325
 (.call Zcq [a (v I 1)] 453
 (.join
 (.call ZG [a (pr (v (L U) 2) (s (v (P (L U) I) 134))),a (c 3)] 837
 (.ite (eq (v I 837) (c 0))
 (.guard (le (ln (app (one (pr (v I 325) (pr (v I 326) (pr (v I 327) (v I 328))))) (app (one (pr (v I 453) (pr (v I 454) (pr (v I 455) (v I 456))))) (one (pr (v I 133) (pr (c 0) (pr (c 0) (c 1)))))))) (c 549755813888))
 (.guard (le (ln (one (pr (c 7) (pr (c 0) (pr (c 2) (c 2)))))) (c 549755813888))
 (.jump 0 [a (v (L U) 2),a (s (v (P (L U) I) 838)),a (app (app (one (pr (v I 325) (pr (v I 326) (pr (v I 327) (v I 328))))) (app (one (pr (v I 453) (pr (v I 454) (pr (v I 455) (v I 456))))) (one (pr (v I 133) (pr (c 0) (pr (c 0) (c 1))))))) (one (pr (c 7) (pr (c 0) (pr (c 2) (c 2))))))])))
 (.jump 0 [a (v (L U) 2),a (s (v (P (L U) I) 838)),a (app (one (pr (v I 325) (pr (v I 326) (pr (v I 327) (v I 328))))) (app (one (pr (v I 453) (pr (v I 454) (pr (v I 455) (v I 456))))) (one (pr (v I 133) (pr (c 0) (pr (c 0) (c 1)))))))])))
 (.ret [a (v (L T4) 2),a (pr (v (L U) 0) (v I 1))]))))))
def Zeq:Tr:=.call Zb9 [a (v (L T4) 0),a (v I 1)] 100192
 (.ret [a (gt (ln (v (L I) 100192)) (c 0))])
def Zer:Tr:=.ite (ge (v I 0) (c 2))
 (.ret [a (v I 0),a (c 0),a (add (v I 2) (v I 4)),a (add (v I 3) (v I 4))])
 (.ret [a (v I 0),a (v I 1),a (v I 2),a (v I 3)])
def Zes:Tr:=.call Zcs [a (v (L T4) 1),a (v I 3)] 100192
 (.ite (nt (v B 100192))
 (.ret [a (nl T4)])
 (.call Zcs [a (v (L T4) 2),a (v I 3)] 100512
 (.ite (nt (v B 100512))
 (.ret [a (nl T4)])
 (.loop [a (v I 0),a (v (L T4) 1),a (v (L T4) 2),a (v I 3),a (c 0),a (nl T4)]
 (.ite (lt (v I 4) (ln (v (L T4) 1)))
 (.guard (le (c 0) (v I 4))
 (.guard (lt (v I 4) (ln (v (L T4) 1)))
 (.guard (le (ln (v (L T4) 5)) (c 549755813888))
 (.guard (le (ln (one (pr (f (ix (v (L T4) 1) (v I 4))) (pr (f (s (ix (v (L T4) 1) (v I 4)))) (pr (f (s (s (ix (v (L T4) 1) (v I 4))))) (s (s (s (ix (v (L T4) 1) (v I 4)))))))))) (c 549755813888))
 (.jump 0 [a (v I 0),a (v (L T4) 1),a (v (L T4) 2),a (v I 3),a (add (v I 4) (c 1)),a (app (v (L T4) 5) (one (pr (f (ix (v (L T4) 1) (v I 4))) (pr (f (s (ix (v (L T4) 1) (v I 4)))) (pr (f (s (s (ix (v (L T4) 1) (v I 4))))) (s (s (s (ix (v (L T4) 1) (v I 4))))))))))])))))
 (.join
 (.loop [a (v I 0),a (v (L T4) 1),a (v (L T4) 2),a (v I 3),a (c 0),a (v (L T4) 5)]
 (.ite (lt (v I 4) (ln (v (L T4) 2)))
 (.call Zb7 [a (v I 0)] 391
 (.ite (nt (v B 391))
 (.guard (le (c 0) (v I 4))
 (.guard (lt (v I 4) (ln (v (L T4) 2)))
 (.call Zct [a (f (ix (v (L T4) 2) (v I 4))),a (f (s (ix (v (L T4) 2) (v I 4)))),a (f (s (s (ix (v (L T4) 2) (v I 4))))),a (s (s (s (ix (v (L T4) 2) (v I 4))))),a (ln (v (L T4) 1))] 1031
 (.guard (le (ln (v (L T4) 5)) (c 549755813888))
 (.guard (le (ln (one (pr (v I 1031) (pr (v I 1032) (pr (v I 1033) (v I 1034)))))) (c 549755813888))
 (.jump 0 [a (v I 0),a (v (L T4) 1),a (v (L T4) 2),a (v I 3),a (add (v I 4) (c 1)),a (app (v (L T4) 5) (one (pr (v I 1031) (pr (v I 1032) (pr (v I 1033) (v I 1034))))))]))))))
 (.jump 1 [a (v I 0),a (v (L T4) 1),a (v I 3),a (v (L T4) 5)])))
 (.jump 1 [a (v I 0),a (v (L T4) 1),a (v I 3),a (v (L T4) 5)])))
 (.guard (le (ln (v (L T4) 3)) (c 549755813888))
 (.guard (le (ln (one (pr (v I 0) (pr (c 0) (pr (sub (ln (v (L T4) 1)) (c 1)) (sub (ln (v (L T4) 3)) (c 1))))))) (c 549755813888))
 (.ite (lt (v I 0) (c 2))
 (.ret [a (nl T4)])
 (.call Zcs [a (app (v (L T4) 3) (one (pr (v I 0) (pr (c 0) (pr (sub (ln (v (L T4) 1)) (c 1)) (sub (ln (v (L T4) 3)) (c 1))))))),a (v I 2)] 1093
 (.ite (nt (v B 1093))
 (.ret [a (nl T4)])
 (.ret [a (app (v (L T4) 3) (one (pr (v I 0) (pr (c 0) (pr (sub (ln (v (L T4) 1)) (c 1)) (sub (ln (v (L T4) 3)) (c 1)))))))]))))))))))))
end Go.Proofs.YtknlennollmgeaaGreat
namespace Go.Proofs.YtknlennollmgeaaGreat
open Go Go.Sm Go.Sm.Q
def Zet:Tr:=.call ZG [a (pr (f (v (P (L U) I) 0)) (s (v (P (L U) I) 0))),a (ln (v (L V3) 1))] 100256
 (.guard (le (c 0) (v I 100256))
 (.guard (lt (v I 100256) (ln (v (L V3) 1)))
 (.call Zcr [a (pr (f (v (P (L U) I) 0)) (s (v (P (L U) I) 100257))),a (f (ix (v (L V3) 1) (v I 100256))),a (f (s (ix (v (L V3) 1) (v I 100256)))),a (s (s (ix (v (L V3) 1) (v I 100256)))),a (v I 100256)] 100768
 (.join
 (.call ZG [a (pr (f (v (P (L U) I) 0)) (s (v (P (L U) I) 100769))),a (c 2)] 100960
 (.ite (eq (v I 100960) (c 0))
 (.call ZG [a (pr (f (v (P (L U) I) 0)) (s (v (P (L U) I) 100961))),a (ln (v (L V3) 1))] 101280
 (.guard (le (c 0) (v I 101280))
 (.guard (lt (v I 101280) (ln (v (L V3) 1)))
 (.call Zco [a (pr (f (v (P (L U) I) 0)) (s (v (P (L U) I) 101281))),a (app (one (c 8)) (app (one (c 9)) (one (c 8))))] 102048
 (.call Zcr [a (pr (f (v (P (L U) I) 0)) (s (v (P (L U) I) 102049))),a (f (ix (v (L V3) 1) (v I 101280))),a (f (s (ix (v (L V3) 1) (v I 101280)))),a (s (s (ix (v (L V3) 1) (v I 101280)))),a (v I 101280)] 102176
 (.call Zcu [a (v I 102048),a (v (L T4) 100768),a (v (L T4) 102176),a (ln (v (L V3) 1))] 102240
 (.join
 (.jump 0 [a (f (v (P (L U) I) 0)),a (s (v (P (L U) I) 102177)),a (v (L T4) 102240)])
 (.jump 0 [a (v (L U) 0),a (v I 1),a (v (L T4) 2)]))))))))
 (.jump 0 [a (f (v (P (L U) I) 0)),a (s (v (P (L U) I) 100961)),a (v (L T4) 100768)])))
 (.ret [a (v (L T4) 2),a (pr (v (L U) 0) (v I 1))])))))
def Zeu:Tr:=.call ZG [a (pr (f (v (P (L U) I) 0)) (s (v (P (L U) I) 0))),a (c 4)] 100192
 (.call ZG [a (pr (f (v (P (L U) I) 0)) (s (v (P (L U) I) 100193))),a (c 4)] 100320
 (.call ZG [a (pr (f (v (P (L U) I) 0)) (s (v (P (L U) I) 100321))),a (c 7)] 100448
 (.call ZG [a (pr (f (v (P (L U) I) 0)) (s (v (P (L U) I) 100449))),a (c 200)] 100640
 (.call ZG [a (pr (f (v (P (L U) I) 0)) (s (v (P (L U) I) 100641))),a (c 4)] 100896
 (.guard (le (c 0) (v I 100896))
 (.guard (lt (v I 100896) (ln (app (one (c 9999)) (app (one (c (-9999))) (app (one (c 5000)) (one (c 100)))))))
 (.call Zco [a (pr (f (v (P (L U) I) 0)) (s (v (P (L U) I) 100897))),a (app (one (v I 100192)) (app (one (v I 100320)) (app (one (sub (v I 100448) (c 3))) (app (one (c 1)) (app (one (c 0)) (app (one (sub (v I 100640) (c 100))) (one (ix (app (one (c 9999)) (app (one (c (-9999))) (app (one (c 5000)) (one (c 100))))) (v I 100896)))))))))] 101152
 (.ret [a (v I 101152),a (pr (f (v (P (L U) I) 0)) (s (v (P (L U) I) 101153)))]))))))))
def Zev:Tr:=.call ZG [a (pr (f (v (P (L U) I) 0)) (s (v (P (L U) I) 0))),a (ln (v (L I) 1))] 100256
 (.loop [a (v (L I) 1),a (v I 2),a (v I 100256),a (c 0),a (f (v (P (L U) I) 0)),a (s (v (P (L U) I) 100257))]
 (.ite (lt (v I 3) (ln (v (L I) 0)))
 (.guard (ne (ln (v (L I) 0)) (c 0))
 (.guard (le (c 0) (rem (add (v I 2) (v I 3)) (ln (v (L I) 0))))
 (.guard (lt (rem (add (v I 2) (v I 3)) (ln (v (L I) 0))) (ln (v (L I) 0)))
 (.ite (eq (ix (v (L I) 0) (rem (add (v I 2) (v I 3)) (ln (v (L I) 0)))) (v I 1))
 (.ret [a (rem (add (v I 2) (v I 3)) (ln (v (L I) 0))),a (pr (v (L U) 4) (v I 5))])
 (.jump 0 [a (v (L I) 0),a (v I 1),a (v I 2),a (add (v I 3) (c 1)),a (v (L U) 4),a (v I 5)])))))
 (.ret [a (c (-1)),a (pr (v (L U) 4) (v I 5))])))
def Zew:Tr:=.call ZG [a (pr (f (v (P (L U) I) 0)) (s (v (P (L U) I) 0))),a (v I 3)] 100448
 (.loop [a (v I 1),a (v I 2),a (add (c 2) (v I 100448)),a (f (v (P (L U) I) 0)),a (s (v (P (L U) I) 100449)),a (nl T4),a (nl I)]
 (.ite (gt (v I 2) (c 0))
 (.join
 (.call Zco [a (pr (v (L U) 3) (v I 4)),a (app (one (c 0)) (app (one (c 1)) (app (one (c 1)) (app (one (c 2)) (app (one (c 3)) (app (one (c 4)) (app (one (c 5)) (app (one (c 6)) (app (one (c 5)) (app (one (c 6)) (app (one (c 7)) (app (one (c 8)) (one (c 9))))))))))))))] 266
 (.join
 (.ite (eq (ln (v (L T4) 5)) (c 0))
 (.call Zcw [a (pr (v (L U) 3) (s (v (P (L U) I) 267)))] 1162
 (.ite (gt (v I 0) (c 0))
 (.ite (ne (v I 266) (c 0))
 (.call ZG [a (pr (v (L U) 3) (s (v (P (L U) I) 1163))),a (v I 0)] 1866
 (.jump 0 [a (v I 0),a (v I 1),a (v I 2),a (v (L U) 3),a (s (v (P (L U) I) 1867)),a (v (L T4) 5),a (v (L I) 6),a (c 1),a (v I 1866),a (c 0),a (c 0)]))
 (.jump 0 [a (v I 0),a (v I 1),a (v I 2),a (v (L U) 3),a (s (v (P (L U) I) 1163)),a (v (L T4) 5),a (v (L I) 6),a (c 0),a (v I 1162),a (c 0),a (c 0)]))
 (.jump 0 [a (v I 0),a (v I 1),a (v I 2),a (v (L U) 3),a (s (v (P (L U) I) 1163)),a (v (L T4) 5),a (v (L I) 6),a (c 0),a (v I 1162),a (c 0),a (c 0)])))
 (.ite (lt (v I 266) (c 2))
 (.call Zcw [a (pr (v (L U) 3) (s (v (P (L U) I) 267)))] 1162
 (.ite (gt (v I 0) (c 0))
 (.ite (ne (v I 266) (c 0))
 (.call ZG [a (pr (v (L U) 3) (s (v (P (L U) I) 1163))),a (v I 0)] 1866
 (.jump 0 [a (v I 0),a (v I 1),a (v I 2),a (v (L U) 3),a (s (v (P (L U) I) 1867)),a (v (L T4) 5),a (v (L I) 6),a (c 1),a (v I 1866),a (c 0),a (c 0)]))
 (.jump 0 [a (v I 0),a (v I 1),a (v I 2),a (v (L U) 3),a (s (v (P (L U) I) 1163)),a (v (L T4) 5),a (v (L I) 6),a (c 0),a (v I 1162),a (c 0),a (c 0)]))
 (.jump 0 [a (v I 0),a (v I 1),a (v I 2),a (v (L U) 3),a (s (v (P (L U) I) 1163)),a (v (L T4) 5),a (v (L I) 6),a (c 0),a (v I 1162),a (c 0),a (c 0)])))
 (.join
 (.ite (ge (v I 266) (c 7))
 (.jump 0 [a (v I 0),a (v I 1),a (v I 2),a (v I 266),a (c 2),a (v (L U) 3),a (s (v (P (L U) I) 267)),a (v (L T4) 5),a (v (L I) 6),a (v I 266),a (c 0),a (c 0),a (c 0)])
 (.jump 0 [a (v I 0),a (v I 1),a (v I 2),a (v I 266),a (c 1),a (v (L U) 3),a (s (v (P (L U) I) 267)),a (v (L T4) 5),a (v (L I) 6),a (v I 266),a (c 0),a (c 0),a (c 0)]))
 (.call Zcx [a (pr (v (L U) 5) (v I 6)),a (v (L I) 8),a (v I 4)] 209
 (.call Zcx [a (pr (v (L U) 5) (s (v (P (L U) I) 210))),a (v (L I) 8),a (v I 4)] 593
 (.call Zb7 [a (v I 3)] 849
 (.ite (v B 849)
 (.jump 0 [a (v I 0),a (v I 1),a (v I 2),a (v (L U) 5),a (s (v (P (L U) I) 594)),a (v (L T4) 7),a (v (L I) 8),a (v I 9),a (v I 10),a (v I 209),a (v I 209)])
 (.jump 0 [a (v I 0),a (v I 1),a (v I 2),a (v (L U) 5),a (s (v (P (L U) I) 594)),a (v (L T4) 7),a (v (L I) 8),a (v I 9),a (v I 10),a (v I 209),a (v I 593)]))))))))
 (.call Zb8 [a (v I 7),a (v I 8),a (v I 9),a (v I 10),a (v (L I) 6),a (v I 0)] 207
 (.ite (ne (v I 207) (c 0))
 (.guard (le (ln (v (L T4) 5)) (c 549755813888))
 (.guard (le (ln (one (pr (v I 7) (pr (v I 8) (pr (v I 9) (v I 10)))))) (c 549755813888))
 (.guard (le (ln (v (L I) 6)) (c 549755813888))
 (.guard (le (ln (one (v I 207))) (c 549755813888))
 (.jump 0 [a (v I 0),a (v I 1),a (v I 2),a (v (L U) 3),a (v I 4),a (app (v (L T4) 5) (one (pr (v I 7) (pr (v I 8) (pr (v I 9) (v I 10)))))),a (app (v (L I) 6) (one (v I 207)))])))))
 (.jump 0 [a (v I 0),a (v I 1),a (v I 2),a (v (L U) 3),a (v I 4),a (v (L T4) 5),a (v (L I) 6)])))))
 (.jump 0 [a (v I 0),a (v I 1),a (sub (v I 2) (c 1)),a (v (L U) 3),a (v I 4),a (v (L T4) 5),a (v (L I) 6)]))
 (.join
 (.ite (eq (ln (v (L T4) 5)) (c 0))
 (.guard (le (ln (v (L T4) 5)) (c 549755813888))
 (.guard (le (ln (one (pr (c 0) (pr (c 1) (pr (c 0) (c 0)))))) (c 549755813888))
 (.guard (le (ln (v (L I) 6)) (c 549755813888))
 (.guard (le (ln (one (c 1))) (c 549755813888))
 (.jump 0 [a (v I 1),a (v (L U) 3),a (v I 4),a (app (v (L T4) 5) (one (pr (c 0) (pr (c 1) (pr (c 0) (c 0)))))),a (app (v (L I) 6) (one (c 1)))])))))
 (.jump 0 [a (v I 1),a (v (L U) 3),a (v I 4),a (v (L T4) 5),a (v (L I) 6)]))
 (.join
 (.ite (eq (v I 0) (c 2))
 (.guard (le (c 0) (sub (ln (v (L T4) 3)) (c 1)))
 (.guard (lt (sub (ln (v (L T4) 3)) (c 1)) (ln (v (L I) 4)))
 (.ite (ne (ix (v (L I) 4) (sub (ln (v (L T4) 3)) (c 1))) (v I 0))
 (.call Zco [a (pr (v (L U) 1) (v I 2)),a (app (one (c 5)) (one (c 6)))] 1096
 (.call Zcx [a (pr (v (L U) 1) (s (v (P (L U) I) 1097))),a (v (L I) 4),a (c 1)] 1352
 (.guard (le (ln (v (L T4) 3)) (c 549755813888))
 (.guard (le (ln (one (pr (v I 1096) (pr (c 0) (pr (sub (ln (v (L T4) 3)) (c 1)) (v I 1352)))))) (c 549755813888))
 (.jump 0 [a (v (L U) 1),a (s (v (P (L U) I) 1353)),a (app (v (L T4) 3) (one (pr (v I 1096) (pr (c 0) (pr (sub (ln (v (L T4) 3)) (c 1)) (v I 1352))))))])))))
 (.ite (eq (v I 0) (c 1))
 (.guard (le (c 0) (sub (ln (v (L T4) 3)) (c 1)))
 (.guard (lt (sub (ln (v (L T4) 3)) (c 1)) (ln (v (L I) 4)))
 (.ite (ne (ix (v (L I) 4) (sub (ln (v (L T4) 3)) (c 1))) (v I 0))
 (.call Zcx [a (pr (v (L U) 1) (v I 2)),a (v (L I) 4),a (c 1)] 1672
 (.call Zco [a (pr (v (L U) 1) (s (v (P (L U) I) 1673))),a (app (one (c 2)) (one (c 3)))] 1992
 (.call Zcx [a (pr (v (L U) 1) (s (v (P (L U) I) 1993))),a (v (L I) 4),a (c 1)] 2248
 (.guard (le (ln (v (L T4) 3)) (c 549755813888))
 (.guard (le (ln (one (pr (v I 1992) (pr (c 0) (pr (v I 1672) (v I 2248)))))) (c 549755813888))
 (.jump 0 [a (v (L U) 1),a (s (v (P (L U) I) 2249)),a (app (v (L T4) 3) (one (pr (v I 1992) (pr (c 0) (pr (v I 1672) (v I 2248))))))]))))))
 (.jump 0 [a (v (L U) 1),a (v I 2),a (v (L T4) 3)]))))
 (.jump 0 [a (v (L U) 1),a (v I 2),a (v (L T4) 3)])))))
 (.ite (eq (v I 0) (c 1))
 (.guard (le (c 0) (sub (ln (v (L T4) 3)) (c 1)))
 (.guard (lt (sub (ln (v (L T4) 3)) (c 1)) (ln (v (L I) 4)))
 (.ite (ne (ix (v (L I) 4) (sub (ln (v (L T4) 3)) (c 1))) (v I 0))
 (.call Zcx [a (pr (v (L U) 1) (v I 2)),a (v (L I) 4),a (c 1)] 1672
 (.call Zco [a (pr (v (L U) 1) (s (v (P (L U) I) 1673))),a (app (one (c 2)) (one (c 3)))] 1992
 (.call Zcx [a (pr (v (L U) 1) (s (v (P (L U) I) 1993))),a (v (L I) 4),a (c 1)] 2248
 (.guard (le (ln (v (L T4) 3)) (c 549755813888))
 (.guard (le (ln (one (pr (v I 1992) (pr (c 0) (pr (v I 1672) (v I 2248)))))) (c 549755813888))
 (.jump 0 [a (v (L U) 1),a (s (v (P (L U) I) 2249)),a (app (v (L T4) 3) (one (pr (v I 1992) (pr (c 0) (pr (v I 1672) (v I 2248))))))]))))))
 (.jump 0 [a (v (L U) 1),a (v I 2),a (v (L T4) 3)]))))
 (.jump 0 [a (v (L U) 1),a (v I 2),a (v (L T4) 3)])))
 (.ret [a (v (L T4) 2),a (pr (v (L U) 0) (v I 1))])))))
def Zex:Tr:=.call ZG [a (pr (f (v (P (L U) I) 0)) (s (v (P (L U) I) 0))),a (c 6)] 100128
 (.ite (lt (v I 100128) (c 3))
 (.call Zcp [a (v I 2)] 100448
 (.call Zcq [a (c 1)] 100512
 (.call Zco [a (pr (f (v (P (L U) I) 0)) (s (v (P (L U) I) 100129))),a (app (one (c 2)) (one (c 3)))] 100704
 (.ret [a (app (one (pr (v I 100448) (pr (v I 100449) (pr (v I 100450) (v I 100451))))) (app (one (pr (v I 100512) (pr (v I 100513) (pr (v I 100514) (v I 100515))))) (one (pr (v I 100704) (pr (c 0) (pr (c 0) (c 1))))))),a (pr (f (v (P (L U) I) 0)) (s (v (P (L U) I) 100705)))]))))
 (.ite (eq (v I 100128) (c 3))
 (.guard (le (c 0) (v I 2))
 (.guard (lt (v I 2) (ln (v (L V3) 1)))
 (.guard (le (c 0) (v I 2))
 (.guard (lt (v I 2) (ln (v (L V3) 1)))
 (.guard (le (c 0) (v I 2))
 (.guard (lt (v I 2) (ln (v (L V3) 1)))
 (.call ZG [a (pr (f (v (P (L U) I) 0)) (s (v (P (L U) I) 100129))),a (add (sub (f (s (ix (v (L V3) 1) (v I 2)))) (f (ix (v (L V3) 1) (v I 2)))) (c 1))] 101664
 (.call Zcq [a (add (f (ix (v (L V3) 1) (v I 2))) (v I 101664))] 101792
 (.join
 (.jump 0 [a (f (v (P (L U) I) 0)),a (s (v (P (L U) I) 101665)),a (one (pr (v I 101792) (pr (v I 101793) (pr (v I 101794) (v I 101795)))))])
 (.ret [a (v (L T4) 2),a (pr (v (L U) 0) (v I 1))]))))))))))
 (.ite (eq (v I 100128) (c 4))
 (.call ZG [a (pr (f (v (P (L U) I) 0)) (s (v (P (L U) I) 100129))),a (ln (v (L V3) 1))] 100832
 (.call Zcp [a (v I 100832)] 100896
 (.ret [a (one (pr (v I 100896) (pr (v I 100897) (pr (v I 100898) (v I 100899))))),a (pr (f (v (P (L U) I) 0)) (s (v (P (L U) I) 100833)))])))
 (.call Zcy [a (pr (f (v (P (L U) I) 0)) (s (v (P (L U) I) 100129))),a (ln (v (L V3) 1)),a (c 1),a (c 5)] 100832
 (.ret [a (v (L T4) 100832),a (pr (f (v (P (L U) I) 0)) (s (v (P (L U) I) 100833)))])))))
def Zey:Tr:=.loop [a (v (L V3) 1),a (v I 2),a (c 0),a (f (v (P (L U) I) 0)),a (s (v (P (L U) I) 0)),a (nl TR)]
 (.ite (lt (v I 2) (v I 1))
 (.call Zcv [a (pr (v (L U) 3) (v I 4)),a (v (L V3) 0)] 328
 (.loop [a (v (L V3) 0),a (v I 1),a (v I 2),a (c 0),a (v (L U) 3),a (s (v (P (L U) I) 329)),a (v (L TR) 5),a (v (L T4) 328),a (nl I),a (nl (L T4))]
 (.ite (lt (v I 3) (ln (v (L V3) 0)))
 (.join
 (.call ZG [a (pr (v (L U) 4) (v I 5)),a (add (ln (v (L V3) 0)) (c 1))] 528
 (.ite (lt (v I 528) (c 1))
 (.guard (le (ln (v (L I) 8)) (c 549755813888))
 (.guard (le (ln (one (v I 3))) (c 549755813888))
 (.call Zcz [a (pr (v (L U) 4) (s (v (P (L U) I) 529))),a (v (L V3) 0),a (v I 3)] 2576
 (.guard (le (ln (v (L (L T4)) 9)) (c 549755813888))
 (.guard (le (ln (one (v (L T4) 2576))) (c 549755813888))
 (.join
 (.jump 0 [a (v (L V3) 0),a (v I 1),a (v I 2),a (v I 3),a (v (L U) 4),a (s (v (P (L U) I) 2577)),a (v (L TR) 6),a (v (L T4) 7),a (app (v (L I) 8) (one (v I 3))),a (app (v (L (L T4)) 9) (one (v (L T4) 2576)))])
 (.jump 0 [a (v (L V3) 0),a (v I 1),a (v I 2),a (v I 3),a (v (L U) 4),a (v I 5),a (v (L TR) 6),a (v (L T4) 7),a (v (L I) 8),a (v (L (L T4)) 9)])))))))
 (.ite (eq (v I 3) (sub (ln (v (L V3) 0)) (c 1)))
 (.ite (eq (ln (v (L I) 8)) (c 0))
 (.call ZG [a (pr (v (L U) 4) (s (v (P (L U) I) 529))),a (c 9)] 1552
 (.ite (gt (v I 1552) (c 0))
 (.guard (le (ln (v (L I) 8)) (c 549755813888))
 (.guard (le (ln (one (v I 3))) (c 549755813888))
 (.call Zcz [a (pr (v (L U) 4) (s (v (P (L U) I) 1553))),a (v (L V3) 0),a (v I 3)] 2576
 (.guard (le (ln (v (L (L T4)) 9)) (c 549755813888))
 (.guard (le (ln (one (v (L T4) 2576))) (c 549755813888))
 (.join
 (.jump 0 [a (v (L V3) 0),a (v I 1),a (v I 2),a (v I 3),a (v (L U) 4),a (s (v (P (L U) I) 2577)),a (v (L TR) 6),a (v (L T4) 7),a (app (v (L I) 8) (one (v I 3))),a (app (v (L (L T4)) 9) (one (v (L T4) 2576)))])
 (.jump 0 [a (v (L V3) 0),a (v I 1),a (v I 2),a (v I 3),a (v (L U) 4),a (v I 5),a (v (L TR) 6),a (v (L T4) 7),a (v (L I) 8),a (v (L (L T4)) 9)])))))))
 (.jump 0 [a (v (L V3) 0),a (v I 1),a (v I 2),a (v I 3),a (v (L U) 4),a (s (v (P (L U) I) 1553)),a (v (L TR) 6),a (v (L T4) 7),a (v (L I) 8),a (v (L (L T4)) 9)])))
 (.jump 0 [a (v (L V3) 0),a (v I 1),a (v I 2),a (v I 3),a (v (L U) 4),a (s (v (P (L U) I) 529)),a (v (L TR) 6),a (v (L T4) 7),a (v (L I) 8),a (v (L (L T4)) 9)]))
 (.jump 0 [a (v (L V3) 0),a (v I 1),a (v I 2),a (v I 3),a (v (L U) 4),a (s (v (P (L U) I) 529)),a (v (L TR) 6),a (v (L T4) 7),a (v (L I) 8),a (v (L (L T4)) 9)]))))
 (.jump 0 [a (v (L V3) 0),a (v I 1),a (v I 2),a (add (v I 3) (c 1)),a (v (L U) 4),a (v I 5),a (v (L TR) 6),a (v (L T4) 7),a (v (L I) 8),a (v (L (L T4)) 9)]))
 (.guard (le (ln (v (L TR) 6)) (c 549755813888))
 (.guard (le (ln (one (pr (v (L T4) 7) (pr (v (L I) 8) (v (L (L T4)) 9))))) (c 549755813888))
 (.jump 1 [a (v (L V3) 0),a (v I 1),a (add (v I 2) (c 1)),a (v (L U) 4),a (v I 5),a (app (v (L TR) 6) (one (pr (v (L T4) 7) (pr (v (L I) 8) (v (L (L T4)) 9)))))]))))))
 (.ret [a (v (L TR) 5),a (pr (v (L U) 3) (v I 4))]))
def Zez:Tr:=.call ZG [a (pr (f (v (P (L U) I) 0)) (s (v (P (L U) I) 0))),a (c 3)] 100384
 (.loop [a (v I 1),a (c 1),a (add (c 1) (v I 100384)),a (f (v (P (L U) I) 0)),a (s (v (P (L U) I) 100385)),a (nl V3)]
 (.ite (gt (v I 2) (c 0))
 (.join
 (.call Zco [a (pr (v (L U) 3) (v I 4)),a (app (one (c 2)) (app (one (c 3)) (app (one (c 2)) (app (one (c 4)) (one (c 5))))))] 266
 (.ite (le (mul (v I 1) (v I 266)) (v I 0))
 (.call Zco [a (pr (v (L U) 3) (s (v (P (L U) I) 267))),a (app (one (c 0)) (app (one (c 0)) (app (one (c 0)) (app (one (c (-1))) (one (c 2))))))] 842
 (.call ZG [a (pr (v (L U) 3) (s (v (P (L U) I) 843))),a (v I 266)] 1610
 (.guard (le (ln (v (L V3) 5)) (c 549755813888))
 (.guard (le (ln (one (pr (v I 842) (pr (sub (add (v I 842) (v I 266)) (c 1)) (add (v I 842) (v I 1610)))))) (c 549755813888))
 (.join
 (.jump 0 [a (v I 0),a (v I 1),a (v I 2),a (v I 266),a (v (L U) 3),a (s (v (P (L U) I) 1611)),a (app (v (L V3) 5) (one (pr (v I 842) (pr (sub (add (v I 842) (v I 266)) (c 1)) (add (v I 842) (v I 1610))))))])
 (.jump 0 [a (v I 0),a (mul (v I 1) (v I 3)),a (v I 2),a (v (L U) 4),a (v I 5),a (v (L V3) 6)]))))))
 (.jump 0 [a (v I 0),a (v I 1),a (v I 2),a (v (L U) 3),a (s (v (P (L U) I) 267)),a (v (L V3) 5)])))
 (.jump 0 [a (v I 0),a (v I 1),a (sub (v I 2) (c 1)),a (v (L U) 3),a (v I 4),a (v (L V3) 5)]))
 (.join
 (.ite (eq (ln (v (L V3) 5)) (c 0))
 (.guard (le (ln (v (L V3) 5)) (c 549755813888))
 (.guard (le (ln (one (pr (c 0) (pr (c 1) (c 0))))) (c 549755813888))
 (.jump 0 [a (v (L U) 3),a (v I 4),a (app (v (L V3) 5) (one (pr (c 0) (pr (c 1) (c 0)))))])))
 (.jump 0 [a (v (L U) 3),a (v I 4),a (v (L V3) 5)]))
 (.call Zco [a (pr (v (L U) 0) (v I 1)),a (app (one (c 1)) (app (one (c 2)) (app (one (c 3)) (app (one (c 4)) (app (one (c 2)) (app (one (c 3)) (one (c 0))))))))] 327
 (.call ZcA [a (pr (v (L U) 0) (s (v (P (L U) I) 328))),a (v (L V3) 2),a (v I 327)] 391
 (.join
 (.jump 0 [a (v (L U) 0),a (s (v (P (L U) I) 392)),a (v (L V3) 2),a (v (L TR) 391)])
 (.ret [a (v (L V3) 2),a (v (L TR) 3),a (pr (v (L U) 0) (v I 1))])))))))
def ZeA:Tr:=.call ZcB [a (pr (f (v (P (L U) I) 0)) (s (v (P (L U) I) 0))),a (v I 1)] 100192
 (.join
 (.call ZG [a (pr (f (v (P (L U) I) 0)) (s (v (P (L U) I) 100194))),a (c 14)] 100448
 (.ite (eq (v I 100448) (c 0))
 (.call ZG [a (pr (f (v (P (L U) I) 0)) (s (v (P (L U) I) 100449))),a (c 6)] 100640
 (.ite (eq (v I 100640) (c 0))
 (.guard (lt (c 0) (ln (v (L V3) 100192)))
 (.guard (lt (c 0) (ln (v (L V3) 100192)))
 (.jump 0 [a (f (v (P (L U) I) 0)),a (s (v (P (L U) I) 100641)),a (st (v (L V3) 100192) (c 0) (pr (f (ix (v (L V3) 100192) (c 0))) (pr (f (s (ix (v (L V3) 100192) (c 0)))) (add (f (s (ix (v (L V3) 100192) (c 0)))) (c 1))))),a (v (L TR) 100193)])))
 (.ite (eq (v I 100640) (c 1))
 (.guard (lt (c 0) (ln (v (L V3) 100192)))
 (.call Zco [a (pr (f (v (P (L U) I) 0)) (s (v (P (L U) I) 100641))),a (app (one (c (-1))) (app (one (c 20)) (one (c 19))))] 101600
 (.guard (lt (c 0) (ln (v (L V3) 100192)))
 (.join
 (.jump 0 [a (f (v (P (L U) I) 0)),a (s (v (P (L U) I) 101601)),a (st (v (L V3) 100192) (c 0) (pr (f (ix (v (L V3) 100192) (c 0))) (pr (add (f (ix (v (L V3) 100192) (c 0))) (v I 101600)) (s (s (ix (v (L V3) 100192) (c 0))))))),a (v (L TR) 100193)])
 (.jump 0 [a (v (L U) 0),a (v I 1),a (v (L V3) 2),a (v (L TR) 3)])))))
 (.ite (eq (v I 100640) (c 2))
 (.ite (gt (ln (v (L TR) 100193)) (c 0))
 (.call Zcq [a (c 1)] 101664
 (.guard (lt (c 0) (ln (v (L TR) 100193)))
 (.jump 0 [a (f (v (P (L U) I) 0)),a (s (v (P (L U) I) 100641)),a (v (L V3) 100192),a (st (v (L TR) 100193) (c 0) (pr (one (pr (v I 101664) (pr (v I 101665) (pr (v I 101666) (v I 101667))))) (s (ix (v (L TR) 100193) (c 0)))))])))
 (.ite (eq (v I 100640) (c 3))
 (.ite (gt (ln (v (L TR) 100193)) (c 0))
 (.guard (lt (c 0) (ln (v (L TR) 100193)))
 (.guard (le (ln (f (s (ix (v (L TR) 100193) (c 0))))) (c 549755813888))
 (.guard (le (ln (one (ln (v (L V3) 100192)))) (c 549755813888))
 (.guard (lt (c 0) (ln (v (L TR) 100193)))
 (.join
 (.jump 0 [a (f (v (P (L U) I) 0)),a (s (v (P (L U) I) 100641)),a (v (L V3) 100192),a (st (v (L TR) 100193) (c 0) (pr (f (ix (v (L TR) 100193) (c 0))) (pr (app (f (s (ix (v (L TR) 100193) (c 0)))) (one (ln (v (L V3) 100192)))) (s (s (ix (v (L TR) 100193) (c 0)))))))])
 (.jump 0 [a (v (L U) 0),a (v I 1),a (v (L V3) 2),a (v (L TR) 3)]))))))
 (.ite (eq (v I 100640) (c 4))
 (.jump 0 [a (f (v (P (L U) I) 0)),a (s (v (P (L U) I) 100641)),a (nl V3),a (v (L TR) 100193)])
 (.ite (gt (ln (v (L TR) 100193)) (c 0))
 (.guard (lt (c 0) (ln (v (L TR) 100193)))
 (.call Zcq [a (c 0)] 102880
 (.guard (le (ln (s (s (ix (v (L TR) 100193) (c 0))))) (c 549755813888))
 (.guard (le (ln (one (one (pr (v I 102880) (pr (v I 102881) (pr (v I 102882) (v I 102883))))))) (c 549755813888))
 (.guard (lt (c 0) (ln (v (L TR) 100193)))
 (.join
 (.jump 0 [a (f (v (P (L U) I) 0)),a (s (v (P (L U) I) 100641)),a (v (L V3) 100192),a (st (v (L TR) 100193) (c 0) (pr (f (ix (v (L TR) 100193) (c 0))) (pr (f (s (ix (v (L TR) 100193) (c 0)))) (app (s (s (ix (v (L TR) 100193) (c 0)))) (one (one (pr (v I 102880) (pr (v I 102881) (pr (v I 102882) (v I 102883))))))))))])
 (.jump 0 [a (v (L U) 0),a (v I 1),a (v (L V3) 2),a (v (L TR) 3)])))))))
 (.jump 0 [a (f (v (P (L U) I) 0)),a (s (v (P (L U) I) 100641)),a (v (L V3) 100192),a (v (L TR) 100193)]))))
 (.ite (eq (v I 100640) (c 4))
 (.jump 0 [a (f (v (P (L U) I) 0)),a (s (v (P (L U) I) 100641)),a (nl V3),a (v (L TR) 100193)])
 (.ite (gt (ln (v (L TR) 100193)) (c 0))
 (.guard (lt (c 0) (ln (v (L TR) 100193)))
 (.call Zcq [a (c 0)] 102880
 (.guard (le (ln (s (s (ix (v (L TR) 100193) (c 0))))) (c 549755813888))
 (.guard (le (ln (one (one (pr (v I 102880) (pr (v I 102881) (pr (v I 102882) (v I 102883))))))) (c 549755813888))
 (.guard (lt (c 0) (ln (v (L TR) 100193)))
 (.join
 (.jump 0 [a (f (v (P (L U) I) 0)),a (s (v (P (L U) I) 100641)),a (v (L V3) 100192),a (st (v (L TR) 100193) (c 0) (pr (f (ix (v (L TR) 100193) (c 0))) (pr (f (s (ix (v (L TR) 100193) (c 0)))) (app (s (s (ix (v (L TR) 100193) (c 0)))) (one (one (pr (v I 102880) (pr (v I 102881) (pr (v I 102882) (v I 102883))))))))))])
 (.jump 0 [a (v (L U) 0),a (v I 1),a (v (L V3) 2),a (v (L TR) 3)])))))))
 (.jump 0 [a (f (v (P (L U) I) 0)),a (s (v (P (L U) I) 100641)),a (v (L V3) 100192),a (v (L TR) 100193)])))))
 (.ite (eq (v I 100640) (c 3))
 (.ite (gt (ln (v (L TR) 100193)) (c 0))
 (.guard (lt (c 0) (ln (v (L TR) 100193)))
 (.guard (le (ln (f (s (ix (v (L TR) 100193) (c 0))))) (c 549755813888))
 (.guard (le (ln (one (ln (v (L V3) 100192)))) (c 549755813888))
 (.guard (lt (c 0) (ln (v (L TR) 100193)))
 (.join
 (.jump 0 [a (f (v (P (L U) I) 0)),a (s (v (P (L U) I) 100641)),a (v (L V3) 100192),a (st (v (L TR) 100193) (c 0) (pr (f (ix (v (L TR) 100193) (c 0))) (pr (app (f (s (ix (v (L TR) 100193) (c 0)))) (one (ln (v (L V3) 100192)))) (s (s (ix (v (L TR) 100193) (c 0)))))))])
 (.jump 0 [a (v (L U) 0),a (v I 1),a (v (L V3) 2),a (v (L TR) 3)]))))))
 (.ite (eq (v I 100640) (c 4))
 (.jump 0 [a (f (v (P (L U) I) 0)),a (s (v (P (L U) I) 100641)),a (nl V3),a (v (L TR) 100193)])
 (.ite (gt (ln (v (L TR) 100193)) (c 0))
 (.guard (lt (c 0) (ln (v (L TR) 100193)))
 (.call Zcq [a (c 0)] 102880
 (.guard (le (ln (s (s (ix (v (L TR) 100193) (c 0))))) (c 549755813888))
 (.guard (le (ln (one (one (pr (v I 102880) (pr (v I 102881) (pr (v I 102882) (v I 102883))))))) (c 549755813888))
 (.guard (lt (c 0) (ln (v (L TR) 100193)))
 (.join
 (.jump 0 [a (f (v (P (L U) I) 0)),a (s (v (P (L U) I) 100641)),a (v (L V3) 100192),a (st (v (L TR) 100193) (c 0) (pr (f (ix (v (L TR) 100193) (c 0))) (pr (f (s (ix (v (L TR) 100193) (c 0)))) (app (s (s (ix (v (L TR) 100193) (c 0)))) (one (one (pr (v I 102880) (pr (v I 102881) (pr (v I 102882) (v I 102883))))))))))])
 (.jump 0 [a (v (L U) 0),a (v I 1),a (v (L V3) 2),a (v (L TR) 3)])))))))
 (.jump 0 [a (f (v (P (L U) I) 0)),a (s (v (P (L U) I) 100641)),a (v (L V3) 100192),a (v (L TR) 100193)]))))
 (.ite (eq (v I 100640) (c 4))
 (.jump 0 [a (f (v (P (L U) I) 0)),a (s (v (P (L U) I) 100641)),a (nl V3),a (v (L TR) 100193)])
 (.ite (gt (ln (v (L TR) 100193)) (c 0))
 (.guard (lt (c 0) (ln (v (L TR) 100193)))
 (.call Zcq [a (c 0)] 102880
 (.guard (le (ln (s (s (ix (v (L TR) 100193) (c 0))))) (c 549755813888))
 (.guard (le (ln (one (one (pr (v I 102880) (pr (v I 102881) (pr (v I 102882) (v I 102883))))))) (c 549755813888))
 (.guard (lt (c 0) (ln (v (L TR) 100193)))
 (.join
 (.jump 0 [a (f (v (P (L U) I) 0)),a (s (v (P (L U) I) 100641)),a (v (L V3) 100192),a (st (v (L TR) 100193) (c 0) (pr (f (ix (v (L TR) 100193) (c 0))) (pr (f (s (ix (v (L TR) 100193) (c 0)))) (app (s (s (ix (v (L TR) 100193) (c 0)))) (one (one (pr (v I 102880) (pr (v I 102881) (pr (v I 102882) (v I 102883))))))))))])
 (.jump 0 [a (v (L U) 0),a (v I 1),a (v (L V3) 2),a (v (L TR) 3)])))))))
 (.jump 0 [a (f (v (P (L U) I) 0)),a (s (v (P (L U) I) 100641)),a (v (L V3) 100192),a (v (L TR) 100193)]))))))))
 (.jump 0 [a (f (v (P (L U) I) 0)),a (s (v (P (L U) I) 100449)),a (v (L V3) 100192),a (v (L TR) 100193)])))
 (.ret [a (v (L V3) 2),a (v (L TR) 3),a (pr (v (L U) 0) (v I 1))]))
def ZeB:Tr:=.loop [a (c 0),a (f (v (P (L U) I) 0)),a (s (v (P (L U) I) 0)),a (v (L V3) 1),a (v (L TR) 2),a (nl I)]
 (.ite (lt (v I 0) (ln (v (L TR) 4)))
 (.join
 (.call ZG [a (pr (v (L U) 1) (v I 2)),a (c 2)] 393
 (.ite (eq (v I 393) (c 0))
 (.guard (le (ln (v (L I) 5)) (c 549755813888))
 (.guard (le (ln (one (v I 0))) (c 549755813888))
 (.jump 0 [a (v I 0),a (v (L U) 1),a (s (v (P (L U) I) 394)),a (v (L V3) 3),a (v (L TR) 4),a (app (v (L I) 5) (one (v I 0)))])))
 (.jump 0 [a (v I 0),a (v (L U) 1),a (s (v (P (L U) I) 394)),a (v (L V3) 3),a (v (L TR) 4),a (v (L I) 5)])))
 (.jump 0 [a (add (v I 0) (c 1)),a (v (L U) 1),a (v I 2),a (v (L V3) 3),a (v (L TR) 4),a (v (L I) 5)]))
 (.join
 (.call ZG [a (pr (v (L U) 1) (v I 2)),a (c 20)] 393
 (.ite (eq (v I 393) (c 0))
 (.call Zco [a (pr (v (L U) 1) (s (v (P (L U) I) 394))),a (app (one (ln (v (L TR) 4))) (app (one (c 0)) (one (c (-1)))))] 905
 (.guard (le (ln (v (L I) 5)) (c 549755813888))
 (.guard (le (ln (one (v I 905))) (c 549755813888))
 (.jump 0 [a (v (L U) 1),a (s (v (P (L U) I) 906)),a (app (v (L I) 5) (one (v I 905)))]))))
 (.jump 0 [a (v (L U) 1),a (s (v (P (L U) I) 394)),a (v (L I) 5)])))
 (.ret [a (v (L I) 2),a (pr (v (L U) 0) (v I 1))])))
def ZeC:Tr:=.call Zcn [a (v (L U) 0)] 100320
 (.call ZcC [a (pr (f (v (P (L U) I) 100320)) (s (v (P (L U) I) 100320))),a (c 14)] 100512
 (.call ZcD [a (pr (f (v (P (L U) I) 100320)) (s (v (P (L U) I) 100514))),a (v (L V3) 100512),a (v (L TR) 100513)] 100832
 (.join
 (.call ZG [a (pr (f (v (P (L U) I) 100320)) (s (v (P (L U) I) 100833))),a (c 3)] 101024
 (.ite (eq (v I 101024) (c 0))
 (.jump 0 [a (f (v (P (L U) I) 100320)),a (s (v (P (L U) I) 101025)),a (v (L V3) 100512),a (v (L TR) 100513),a (nl I)])
 (.jump 0 [a (f (v (P (L U) I) 100320)),a (s (v (P (L U) I) 101025)),a (v (L V3) 100512),a (v (L TR) 100513),a (v (L I) 100832)])))
 (.call ZcD [a (pr (v (L U) 0) (v I 1)),a (v (L V3) 2),a (v (L TR) 3)] 331
 (.join
 (.jump 0 [a (v (L U) 0),a (s (v (P (L U) I) 332)),a (v (L V3) 2),a (v (L TR) 3),a (v (L I) 4),a (v (L I) 331)])
 (.ret [a (pr (v (L U) 0) (v I 1)),a (v (L V3) 2),a (v (L TR) 3),a (v (L I) 4),a (v (L I) 5)]))))))
def ZeD:Tr:=.loop [a (v I 0),a (v I 1),a (c 0),a (nl I)]
 (.ite (lt (v I 2) (v I 1))
 (.guard (le (ln (v (L I) 3)) (c 549755813888))
 (.guard (le (ln (one (add (v I 0) (v I 2)))) (c 549755813888))
 (.jump 0 [a (v I 0),a (v I 1),a (add (v I 2) (c 1)),a (app (v (L I) 3) (one (add (v I 0) (v I 2))))])))
 (.ret [a (v (L I) 3)]))
def ZeE:Tr:=.guard (le (c 0) (ln (v (L (L I)) 0)))
 (.guard (le (ln (v (L (L I)) 0)) (c 549755813888))
 (.loop [a (v (L (L I)) 0),a (ln (v (L (L I)) 0)),a (c 0),a (rep (ln (v (L (L I)) 0)) (z (L I)))]
 (.ite (lt (v I 2) (v I 1))
 (.guard (le (c 0) (v I 2))
 (.guard (lt (v I 2) (ln (v (L (L I)) 0)))
 (.loop [a (v I 2),a (v (L (L I)) 0),a (v I 1),a (v I 2),a (ix (v (L (L I)) 0) (v I 2)),a (ln (ix (v (L (L I)) 0) (v I 2))),a (c 0),a (v (L (L I)) 3)]
 (.ite (lt (v I 6) (v I 5))
 (.guard (le (c 0) (v I 6))
 (.guard (lt (v I 6) (ln (v (L I) 4)))
 (.guard (le (c 0) (ix (v (L I) 4) (v I 6)))
 (.guard (lt (ix (v (L I) 4) (v I 6)) (ln (v (L (L I)) 7)))
 (.guard (le (ln (ix (v (L (L I)) 7) (ix (v (L I) 4) (v I 6)))) (c 549755813888))
 (.guard (le (ln (one (v I 0))) (c 549755813888))
 (.guard (le (c 0) (ix (v (L I) 4) (v I 6)))
 (.guard (lt (ix (v (L I) 4) (v I 6)) (ln (v (L (L I)) 7)))
 (.jump 0 [a (v I 0),a (v (L (L I)) 1),a (v I 2),a (v I 3),a (v (L I) 4),a (v I 5),a (add (v I 6) (c 1)),a (st (v (L (L I)) 7) (ix (v (L I) 4) (v I 6)) (app (ix (v (L (L I)) 7) (ix (v (L I) 4) (v I 6))) (one (v I 0))))])))))))))
 (.jump 1 [a (v (L (L I)) 1),a (v I 2),a (add (v I 3) (c 1)),a (v (L (L I)) 7)])))))
 (.ret [a (v (L (L I)) 3)]))))
def ZeF:Tr:=.loop [a (v (L (L I)) 0),a (c 0),a (v (L (L I)) 0),a (ln (v (L (L I)) 0)),a (c 0)]
 (.ite (lt (v I 4) (v I 3))
 (.guard (le (c 0) (v I 4))
 (.guard (lt (v I 4) (ln (v (L (L I)) 2)))
 (.ite (lt (add (v I 1) (ln (ix (v (L (L I)) 2) (v I 4)))) (c 0))
 (.bad)
 (.jump 0 [a (v (L (L I)) 0),a (add (v I 1) (ln (ix (v (L (L I)) 2) (v I 4)))),a (v (L (L I)) 2),a (v I 3),a (add (v I 4) (c 1))]))))
 (.guard (le (c 0) (v I 1))
 (.guard (le (v I 1) (c 549755813888))
 (.loop [a (v (L (L I)) 0),a (ln (v (L (L I)) 0)),a (c 0),a (nl I)]
 (.ite (lt (v I 2) (v I 1))
 (.guard (le (c 0) (v I 2))
 (.guard (lt (v I 2) (ln (v (L (L I)) 0)))
 (.guard (le (ln (v (L I) 3)) (c 549755813888))
 (.guard (le (ln (ix (v (L (L I)) 0) (v I 2))) (c 549755813888))
 (.jump 0 [a (v (L (L I)) 0),a (v I 1),a (add (v I 2) (c 1)),a (app (v (L I) 3) (ix (v (L (L I)) 0) (v I 2)))])))))
 (.ret [a (v (L I) 3)]))))))
def ZeG:Tr:=.guard (le (c 0) (ln (v (L (L I)) 0)))
 (.guard (le (ln (v (L (L I)) 0)) (c 549755813888))
 (.guard (le (ln (v (L I) 1)) (c 549755813888))
 (.loop [a (v (L (L I)) 0),a (v (L I) 1),a (ln (v (L I) 1)),a (c 0),a (rep (ln (v (L (L I)) 0)) (z B)),a (v (L I) 1)]
 (.ite (lt (v I 3) (v I 2))
 (.guard (le (c 0) (v I 3))
 (.guard (lt (v I 3) (ln (v (L I) 1)))
 (.guard (le (c 0) (ix (v (L I) 1) (v I 3)))
 (.guard (lt (ix (v (L I) 1) (v I 3)) (ln (v (L B) 4)))
 (.jump 0 [a (v (L (L I)) 0),a (v (L I) 1),a (v I 2),a (add (v I 3) (c 1)),a (st (v (L B) 4) (ix (v (L I) 1) (v I 3)) (k true)),a (v (L I) 5)])))))
 (.loop [a (v (L (L I)) 0),a (v (L B) 4),a (v (L I) 5)]
 (.ite (gt (ln (v (L I) 2)) (c 0))
 (.guard (lt (c 0) (ln (v (L I) 2)))
 (.guard (le (c 1) (ln (v (L I) 2)))
 (.guard (le (c 0) (ix (v (L I) 2) (c 0)))
 (.guard (lt (ix (v (L I) 2) (c 0)) (ln (v (L (L I)) 0)))
 (.loop [a (v (L (L I)) 0),a (ix (v (L (L I)) 0) (ix (v (L I) 2) (c 0))),a (ln (ix (v (L (L I)) 0) (ix (v (L I) 2) (c 0)))),a (c 0),a (v (L B) 1),a (drop (v (L I) 2) (c 1))]
 (.ite (lt (v I 3) (v I 2))
 (.join
 (.guard (le (c 0) (v I 3))
 (.guard (lt (v I 3) (ln (v (L I) 1)))
 (.guard (le (c 0) (ix (v (L I) 1) (v I 3)))
 (.guard (lt (ix (v (L I) 1) (v I 3)) (ln (v (L B) 4)))
 (.ite (nt (ix (v (L B) 4) (ix (v (L I) 1) (v I 3))))
 (.guard (le (c 0) (ix (v (L I) 1) (v I 3)))
 (.guard (lt (ix (v (L I) 1) (v I 3)) (ln (v (L B) 4)))
 (.guard (le (ln (v (L I) 5)) (c 549755813888))
 (.guard (le (ln (one (ix (v (L I) 1) (v I 3)))) (c 549755813888))
 (.jump 0 [a (v (L (L I)) 0),a (v (L I) 1),a (v I 2),a (v I 3),a (st (v (L B) 4) (ix (v (L I) 1) (v I 3)) (k true)),a (app (v (L I) 5) (one (ix (v (L I) 1) (v I 3))))])))))
 (.jump 0 [a (v (L (L I)) 0),a (v (L I) 1),a (v I 2),a (v I 3),a (v (L B) 4),a (v (L I) 5)]))))))
 (.jump 0 [a (v (L (L I)) 0),a (v (L I) 1),a (v I 2),a (add (v I 3) (c 1)),a (v (L B) 4),a (v (L I) 5)]))
 (.jump 1 [a (v (L (L I)) 0),a (v (L B) 4),a (v (L I) 5)])))))))
 (.ret [a (v (L B) 1)])))))))
def ZeH:Tr:=.guard (le (c 0) (ln (f (s (v (P (P (L V3) (L TR)) (P (L (L I)) (P (L I) (P (L I) (L (L I)))))) 0)))))
 (.guard (le (ln (f (s (v (P (P (L V3) (L TR)) (P (L (L I)) (P (L I) (P (L I) (L (L I)))))) 0)))) (c 549755813888))
 (.loop [a (v (L B) 1),a (f (s (v (P (P (L V3) (L TR)) (P (L (L I)) (P (L I) (P (L I) (L (L I)))))) 0))),a (ln (f (s (v (P (P (L V3) (L TR)) (P (L (L I)) (P (L I) (P (L I) (L (L I)))))) 0)))),a (c 0),a (f (f (v (P (P (L V3) (L TR)) (P (L (L I)) (P (L I) (P (L I) (L (L I)))))) 0))),a (s (f (v (P (P (L V3) (L TR)) (P (L (L I)) (P (L I) (P (L I) (L (L I)))))) 0))),a (f (s (v (P (P (L V3) (L TR)) (P (L (L I)) (P (L I) (P (L I) (L (L I)))))) 0))),a (f (s (s (v (P (P (L V3) (L TR)) (P (L (L I)) (P (L I) (P (L I) (L (L I)))))) 0)))),a (f (s (s (s (v (P (P (L V3) (L TR)) (P (L (L I)) (P (L I) (P (L I) (L (L I)))))) 0))))),a (s (s (s (s (v (P (P (L V3) (L TR)) (P (L (L I)) (P (L I) (P (L I) (L (L I)))))) 0))))),a (rep (ln (f (s (v (P (P (L V3) (L TR)) (P (L (L I)) (P (L I) (P (L I) (L (L I)))))) 0)))) (z (L I)))]
 (.ite (lt (v I 3) (v I 2))
 (.guard (le (c 0) (v I 3))
 (.guard (lt (v I 3) (ln (v (L (L I)) 1)))
 (.loop [a (v (L B) 0),a (v I 3),a (v (L (L I)) 1),a (v I 2),a (v I 3),a (ix (v (L (L I)) 1) (v I 3)),a (ln (ix (v (L (L I)) 1) (v I 3))),a (c 0),a (v (L V3) 4),a (v (L TR) 5),a (v (L (L I)) 6),a (v (L I) 7),a (v (L I) 8),a (v (L (L I)) 9),a (v (L (L I)) 10)]
 (.ite (lt (v I 7) (v I 6))
 (.join
 (.guard (le (c 0) (v I 7))
 (.guard (lt (v I 7) (ln (v (L I) 5)))
 (.guard (le (c 0) (v I 1))
 (.guard (lt (v I 1) (ln (v (L B) 0)))
 (.ite (ix (v (L B) 0) (v I 1))
 (.guard (le (c 0) (ix (v (L I) 5) (v I 7)))
 (.guard (lt (ix (v (L I) 5) (v I 7)) (ln (v (L B) 0)))
 (.ite (ix (v (L B) 0) (ix (v (L I) 5) (v I 7)))
 (.guard (le (c 0) (v I 1))
 (.guard (lt (v I 1) (ln (v (L (L I)) 14)))
 (.guard (le (ln (ix (v (L (L I)) 14) (v I 1))) (c 549755813888))
 (.guard (le (ln (one (ix (v (L I) 5) (v I 7)))) (c 549755813888))
 (.guard (le (c 0) (v I 1))
 (.guard (lt (v I 1) (ln (v (L (L I)) 14)))
 (.jump 0 [a (v (L B) 0),a (v I 1),a (v (L (L I)) 2),a (v I 3),a (v I 4),a (v (L I) 5),a (v I 6),a (v I 7),a (v (L V3) 8),a (v (L TR) 9),a (v (L (L I)) 10),a (v (L I) 11),a (v (L I) 12),a (v (L (L I)) 13),a (st (v (L (L I)) 14) (v I 1) (app (ix (v (L (L I)) 14) (v I 1)) (one (ix (v (L I) 5) (v I 7)))))])))))))
 (.jump 0 [a (v (L B) 0),a (v I 1),a (v (L (L I)) 2),a (v I 3),a (v I 4),a (v (L I) 5),a (v I 6),a (v I 7),a (v (L V3) 8),a (v (L TR) 9),a (v (L (L I)) 10),a (v (L I) 11),a (v (L I) 12),a (v (L (L I)) 13),a (v (L (L I)) 14)]))))
 (.jump 0 [a (v (L B) 0),a (v I 1),a (v (L (L I)) 2),a (v I 3),a (v I 4),a (v (L I) 5),a (v I 6),a (v I 7),a (v (L V3) 8),a (v (L TR) 9),a (v (L (L I)) 10),a (v (L I) 11),a (v (L I) 12),a (v (L (L I)) 13),a (v (L (L I)) 14)]))))))
 (.jump 0 [a (v (L B) 0),a (v I 1),a (v (L (L I)) 2),a (v I 3),a (v I 4),a (v (L I) 5),a (v I 6),a (add (v I 7) (c 1)),a (v (L V3) 8),a (v (L TR) 9),a (v (L (L I)) 10),a (v (L I) 11),a (v (L I) 12),a (v (L (L I)) 13),a (v (L (L I)) 14)]))
 (.jump 1 [a (v (L B) 0),a (v (L (L I)) 2),a (v I 3),a (add (v I 4) (c 1)),a (v (L V3) 8),a (v (L TR) 9),a (v (L (L I)) 10),a (v (L I) 11),a (v (L I) 12),a (v (L (L I)) 13),a (v (L (L I)) 14)])))))
 (.call ZcG [a (v (L (L I)) 10)] 141
 (.call Zcm [a (pr (pr (v (L V3) 4) (v (L TR) 5)) (pr (v (L (L I)) 6) (pr (v (L I) 7) (pr (v (L I) 8) (v (L (L I)) 9))))),a (v (L B) 0)] 333
 (.call ZcH [a (v (L (L I)) 333)] 397
 (.call ZcI [a (v (L (L I)) 141),a (v (L I) 397)] 461
 (.ret [a (v (L B) 461),a (pr (pr (v (L V3) 4) (v (L TR) 5)) (pr (v (L (L I)) 6) (pr (v (L I) 7) (pr (v (L I) 8) (v (L (L I)) 9)))))]))))))))
def ZeI:Tr:=.call ZG [a (pr (f (v (P (L U) I) 0)) (s (v (P (L U) I) 0))),a (c 3)] 100256
 (.call Zcy [a (pr (f (v (P (L U) I) 0)) (s (v (P (L U) I) 100257))),a (v I 1),a (v I 100256),a (c 12)] 100320
 (.join
 (.call ZG [a (pr (f (v (P (L U) I) 0)) (s (v (P (L U) I) 100321))),a (c 12)] 100512
 (.ite (eq (v I 100512) (c 0))
 (.call ZG [a (pr (f (v (P (L U) I) 0)) (s (v (P (L U) I) 100513))),a (ln (v (L T4) 100320))] 100832
 (.guard (le (c 0) (v I 100832))
 (.guard (lt (v I 100832) (ln (v (L T4) 100320)))
 (.call ZG [a (pr (f (v (P (L U) I) 0)) (s (v (P (L U) I) 100833))),a (c 4)] 101408
 (.join
 (.ite (eq (v I 101408) (c 0))
 (.call Zco [a (pr (f (v (P (L U) I) 0)) (s (v (P (L U) I) 101409))),a (app (one (c (-1))) (app (one (c 10)) (app (one (c 7)) (app (one (c 2)) (app (one (c 0)) (one (c 1)))))))] 101792
 (.jump 0 [a (v I 100832),a (f (v (P (L U) I) 0)),a (s (v (P (L U) I) 101793)),a (v (L T4) 100320),a (v I 101792),a (f (s (ix (v (L T4) 100320) (v I 100832)))),a (f (s (s (ix (v (L T4) 100320) (v I 100832))))),a (s (s (s (ix (v (L T4) 100320) (v I 100832)))))]))
 (.ite (eq (v I 101408) (c 1))
 (.call Zco [a (pr (f (v (P (L U) I) 0)) (s (v (P (L U) I) 101409))),a (app (one (c (-1))) (app (one (v I 1)) (app (one (c 10000)) (one (c 1)))))] 101984
 (.jump 0 [a (v I 100832),a (f (v (P (L U) I) 0)),a (s (v (P (L U) I) 101985)),a (v (L T4) 100320),a (f (ix (v (L T4) 100320) (v I 100832))),a (v I 101984),a (f (s (s (ix (v (L T4) 100320) (v I 100832))))),a (s (s (s (ix (v (L T4) 100320) (v I 100832)))))]))
 (.ite (eq (v I 101408) (c 2))
 (.call Zco [a (pr (f (v (P (L U) I) 0)) (s (v (P (L U) I) 101409))),a (app (one (c (-1))) (app (one (v I 100832)) (app (one (ln (v (L T4) 100320))) (one (c 0)))))] 102240
 (.jump 0 [a (v I 100832),a (f (v (P (L U) I) 0)),a (s (v (P (L U) I) 102241)),a (v (L T4) 100320),a (f (ix (v (L T4) 100320) (v I 100832))),a (f (s (ix (v (L T4) 100320) (v I 100832)))),a (v I 102240),a (s (s (s (ix (v (L T4) 100320) (v I 100832)))))]))
 (.call Zco [a (pr (f (v (P (L U) I) 0)) (s (v (P (L U) I) 101409))),a (app (one (c (-1))) (app (one (v I 100832)) (app (one (ln (v (L T4) 100320))) (one (c 0)))))] 102240
 (.jump 0 [a (v I 100832),a (f (v (P (L U) I) 0)),a (s (v (P (L U) I) 102241)),a (v (L T4) 100320),a (f (ix (v (L T4) 100320) (v I 100832))),a (f (s (ix (v (L T4) 100320) (v I 100832)))),a (f (s (s (ix (v (L T4) 100320) (v I 100832))))),a (v I 102240)])))))
 (.guard (le (c 0) (v I 0))
 (.guard (lt (v I 0) (ln (v (L T4) 3)))
 (.jump 0 [a (v (L U) 1),a (v I 2),a (st (v (L T4) 3) (v I 0) (pr (v I 4) (pr (v I 5) (pr (v I 6) (v I 7)))))]))))))))
 (.jump 0 [a (f (v (P (L U) I) 0)),a (s (v (P (L U) I) 100513)),a (v (L T4) 100320)])))
 (.ret [a (v (L T4) 2),a (pr (v (L U) 0) (v I 1))])))
def ZeJ:Tr:=.call ZcE [a (v (L U) 0)] 100320
 (.ite (eq (ln (v (L V3) 100321)) (c 0))
 (.call ZcK [a (pr (f (v (P (L U) I) 100320)) (s (v (P (L U) I) 100320))),a (ln (v (L V3) 100321))] 102240
 (.join
 (.jump 0 [a (v (L V3) 100321),a (v (L TR) 100322),a (v (L I) 100323),a (v (L I) 100324),a (v (L T4) 102240)])
 (.ret [a (v (L V3) 0),a (v (L TR) 1),a (v (L I) 2),a (v (L I) 3),a (v (L T4) 4)])))
 (.guard (lt (c 0) (ln (v (L V3) 100321)))
 (.call Zb6 [a (f (ix (v (L V3) 100321) (c 0))),a (f (s (ix (v (L V3) 100321) (c 0)))),a (s (s (ix (v (L V3) 100321) (c 0))))] 101600
 (.ite (nt (v B 101600))
 (.call ZcK [a (pr (f (v (P (L U) I) 100320)) (s (v (P (L U) I) 100320))),a (ln (v (L V3) 100321))] 102240
 (.join
 (.jump 0 [a (v (L V3) 100321),a (v (L TR) 100322),a (v (L I) 100323),a (v (L I) 100324),a (v (L T4) 102240)])
 (.ret [a (v (L V3) 0),a (v (L TR) 1),a (v (L I) 2),a (v (L I) 3),a (v (L T4) 4)])))
 (.guard (le (c 1) (ln (re false (v (L V3) 100321))))
 (.call Zcv [a (pr (f (v (P (L U) I) 100320)) (s (v (P (L U) I) 100320))),a (take (re false (v (L V3) 100321)) (c 1))] 102240
 (.join
 (.jump 0 [a (v (L V3) 100321),a (v (L TR) 100322),a (v (L I) 100323),a (v (L I) 100324),a (v (L T4) 102240)])
 (.ret [a (v (L V3) 0),a (v (L TR) 1),a (v (L I) 2),a (v (L I) 3),a (v (L T4) 4)]))))))))
def ZeK:Tr:=.call ZbR [a (v (L V3) 0),a (v (L TR) 1)] 100192
 (.ite (v B 100192)
 (.call ZbP [a (v (L T4) 2),a (ln (v (L V3) 0))] 100576
 (.ret [a (eq (v I 100576) (c 2))]))
 (.ret [a (k false)]))
def ZeL:Tr:=.call ZbM [a (v (L V3) 0)] 100256
 (.guard (le (c 0) (v I 100256))
 (.guard (le (v I 100256) (c 549755813888))
 (.loop [a (v (L T4) 2),a (ln (rep (v I 100256) (z B))),a (c 0),a (v (L V3) 0),a (v (L TR) 1),a (rep (v I 100256) (z B))]
 (.ite (lt (v I 2) (v I 1))
 (.call ZbU [a (v (L V3) 3),a (v (L TR) 4),a (v I 2)] 520
 (.call ZbY [a (v (L T4) 0),a (v (L I) 520)] 584
 (.guard (le (c 0) (v I 2))
 (.guard (lt (v I 2) (ln (v (L B) 5)))
 (.jump 0 [a (v (L T4) 0),a (v I 1),a (add (v I 2) (c 1)),a (v (L V3) 3),a (v (L TR) 4),a (st (v (L B) 5) (v I 2) (eq (v I 584) (c 1)))])))))
 (.ret [a (v (L B) 5)])))))
def ZeM:Tr:=.call ZcM [a (v (L V3) 0),a (v (L TR) 1),a (v (L T4) 2)] 100320
 (.ite (nt (v B 100320))
 (.ret [a (nl B),a (k false)])
 (.call ZcN [a (v (L V3) 0),a (v (L TR) 1),a (v (L T4) 2)] 100576
 (.ret [a (v (L B) 100576),a (k true)])))
def ZeN:Tr:=.loop [a (v (L V3) 0),a (ln (v (L V3) 0)),a (c 0),a (nl I)]
 (.ite (lt (v I 2) (v I 1))
 (.guard (le (c 0) (v I 2))
 (.guard (lt (v I 2) (ln (v (L V3) 0)))
 (.guard (le (ln (v (L I) 3)) (c 549755813888))
 (.guard (le (ln (one (s (s (ix (v (L V3) 0) (v I 2)))))) (c 549755813888))
 (.jump 0 [a (v (L V3) 0),a (v I 1),a (add (v I 2) (c 1)),a (app (v (L I) 3) (one (s (s (ix (v (L V3) 0) (v I 2))))))])))))
 (.call ZbZ [a (v (L I) 3)] 133
 (.ret [a (v (L I) 133)])))
def ZeO:Tr:=.call ZcO [a (v (L V3) 0),a (v (L TR) 1),a (v (L T4) 4)] 100256
 (.ite (nt (v B 100257))
 (.ret [a (k false)])
 (.call ZbT [a (v (L V3) 0),a (v (L TR) 1),a (v (L I) 2)] 100960
 (.ite (nt (v B 100960))
 (.ret [a (k false)])
 (.call ZbT [a (v (L V3) 0),a (v (L TR) 1),a (v (L I) 3)] 101344
 (.ite (nt (v B 101344))
 (.ret [a (k false)])
 (.loop [a (v (L I) 2),a (v (L I) 3),a (ln (v (L B) 100256)),a (c 0),a (v (L V3) 0),a (v (L TR) 1),a (v (L B) 100256)]
 (.ite (lt (v I 3) (v I 2))
 (.guard (le (c 0) (v I 3))
 (.guard (lt (v I 3) (ln (v (L B) 6)))
 (.guard (le (c 0) (v I 3))
 (.guard (lt (v I 3) (ln (v (L B) 6)))
 (.jump 0 [a (v (L I) 0),a (v (L I) 1),a (v I 2),a (add (v I 3) (c 1)),a (v (L V3) 4),a (v (L TR) 5),a (st (v (L B) 6) (v I 3) (nt (ix (v (L B) 6) (v I 3))))])))))
 (.call ZcP [a (v (L V3) 4),a (v (L TR) 5)] 201
 (.call Zc7 [a (v (L V3) 4),a (v (L TR) 5),a (v (L I) 201)] 265
 (.guard (le (c 0) (v I 265))
 (.guard (lt (v I 265) (ln (v (L B) 6)))
 (.ite (nt (ix (v (L B) 6) (v I 265)))
 (.ret [a (k true)])
 (.call Zcd [a (v (L V3) 4),a (v (L TR) 5),a (v (L I) 0),a (v (L I) 1)] 969
 (.call ZcJ [a (pr (pr (f (f (v (P (P (L V3) (L TR)) (P (L (L I)) (P (L I) (P (L I) (L (L I)))))) 969))) (s (f (v (P (P (L V3) (L TR)) (P (L (L I)) (P (L I) (P (L I) (L (L I)))))) 969)))) (pr (f (s (v (P (P (L V3) (L TR)) (P (L (L I)) (P (L I) (P (L I) (L (L I)))))) 969))) (pr (f (s (s (v (P (P (L V3) (L TR)) (P (L (L I)) (P (L I) (P (L I) (L (L I)))))) 969)))) (pr (f (s (s (s (v (P (P (L V3) (L TR)) (P (L (L I)) (P (L I) (P (L I) (L (L I)))))) 969))))) (s (s (s (s (v (P (P (L V3) (L TR)) (P (L (L I)) (P (L I) (P (L I) (L (L I)))))) 969))))))))),a (v (L B) 6)] 1097
 (.guard (le (c 0) (v I 265))
 (.guard (lt (v I 265) (ln (v (L B) 1097)))
 (.ret [a (nt (ix (v (L B) 1097) (v I 265)))])))))))))))))))))
def ZeP:Tr:=.call Zbc [a (v (L V3) 0),a (v (L TR) 1)] 100320
 (.ite (nt (v B 100320))
 (.ret [a (nl I)])
 (.call Zba [a (v (L T4) 2),a (ln (v (L V3) 0)),a (c 2)] 100768
 (.ite (nt (v B 100768))
 (.ret [a (nl I)])
 (.loop [a (v (L T4) 2),a (c 0),a (v (L V3) 0),a (v (L TR) 1),a (nl I)]
 (.call Zbf [a (v (L V3) 2),a (v (L TR) 3)] 135
 (.ite (lt (v I 1) (v I 135))
 (.join
 (.call Zbj [a (v (L V3) 2),a (v (L TR) 3),a (v I 1)] 455
 (.call Zbo [a (v (L T4) 0),a (v (L I) 455)] 519
 (.ite (eq (v I 519) (c 1))
 (.guard (le (ln (v (L I) 4)) (c 549755813888))
 (.guard (le (ln (one (v I 1))) (c 549755813888))
 (.jump 0 [a (v (L T4) 0),a (v I 1),a (v (L V3) 2),a (v (L TR) 3),a (app (v (L I) 4) (one (v I 1)))])))
 (.jump 0 [a (v (L T4) 0),a (v I 1),a (v (L V3) 2),a (v (L TR) 3),a (v (L I) 4)]))))
 (.jump 0 [a (v (L T4) 0),a (add (v I 1) (c 1)),a (v (L V3) 2),a (v (L TR) 3),a (v (L I) 4)]))
 (.ret [a (v (L I) 4)])))))))
def ZeQ:Tr:=.loop [a (v (L I) 0),a (c 0)]
 (.ite (lt (v I 1) (ln (v (L I) 0)))
 (.join
 (.guard (le (c 0) (v I 1))
 (.guard (lt (v I 1) (ln (v (L I) 0)))
 (.call Zb5 [a (ix (v (L I) 0) (v I 1)),a (c 0),a (c 399)] 514
 (.ite (nt (v B 514))
 (.ret [a (k false)])
 (.ite (gt (v I 1) (c 0))
 (.guard (le (c 0) (v I 1))
 (.guard (lt (v I 1) (ln (v (L I) 0)))
 (.guard (le (c 0) (sub (v I 1) (c 1)))
 (.guard (lt (sub (v I 1) (c 1)) (ln (v (L I) 0)))
 (.ite (le (ix (v (L I) 0) (v I 1)) (ix (v (L I) 0) (sub (v I 1) (c 1))))
 (.ret [a (k false)])
 (.jump 0 [a (v (L I) 0),a (v I 1)]))))))
 (.jump 0 [a (v (L I) 0),a (v I 1)]))))))
 (.jump 0 [a (v (L I) 0),a (add (v I 1) (c 1))]))
 (.ret [a (k true)]))
def ZeR:Tr:=.call ZcS [a (v (L I) 0)] 100256
 (.ite (nt (v B 100256))
 (.ret [a (nl I)])
 (.call ZcS [a (v (L I) 1)] 100512
 (.ite (nt (v B 100512))
 (.ret [a (nl I)])
 (.call Zby [a (v (L I) 0),a (c 400)] 100768
 (.call Zby [a (v (L I) 1),a (c 400)] 100960
 (.loop [a (v I 2),a (c 0),a (nl I),a (v (L B) 100768),a (v (L B) 100960)]
 (.ite (lt (v I 1) (c 400))
 (.join
 (.ite (eq (v I 0) (c 0))
 (.guard (le (c 0) (v I 1))
 (.guard (lt (v I 1) (ln (v (L B) 3)))
 (.ite (ix (v (L B) 3) (v I 1))
 (.guard (le (c 0) (v I 1))
 (.guard (lt (v I 1) (ln (v (L B) 4)))
 (.ite (ix (v (L B) 4) (v I 1))
 (.guard (le (ln (v (L I) 2)) (c 549755813888))
 (.guard (le (ln (one (v I 1))) (c 549755813888))
 (.jump 0 [a (v I 0),a (v I 1),a (app (v (L I) 2) (one (v I 1))),a (v (L B) 3),a (v (L B) 4)])))
 (.ite (eq (v I 0) (c 1))
 (.guard (le (c 0) (v I 1))
 (.guard (lt (v I 1) (ln (v (L B) 3)))
 (.ite (ix (v (L B) 3) (v I 1))
 (.guard (le (ln (v (L I) 2)) (c 549755813888))
 (.guard (le (ln (one (v I 1))) (c 549755813888))
 (.jump 0 [a (v I 0),a (v I 1),a (app (v (L I) 2) (one (v I 1))),a (v (L B) 3),a (v (L B) 4)])))
 (.guard (le (c 0) (v I 1))
 (.guard (lt (v I 1) (ln (v (L B) 4)))
 (.ite (ix (v (L B) 4) (v I 1))
 (.guard (le (ln (v (L I) 2)) (c 549755813888))
 (.guard (le (ln (one (v I 1))) (c 549755813888))
 (.jump 0 [a (v I 0),a (v I 1),a (app (v (L I) 2) (one (v I 1))),a (v (L B) 3),a (v (L B) 4)])))
 (.ite (eq (v I 0) (c 2))
 (.guard (le (c 0) (v I 1))
 (.guard (lt (v I 1) (ln (v (L B) 3)))
 (.ite (ix (v (L B) 3) (v I 1))
 (.guard (le (c 0) (v I 1))
 (.guard (lt (v I 1) (ln (v (L B) 4)))
 (.ite (nt (ix (v (L B) 4) (v I 1)))
 (.guard (le (ln (v (L I) 2)) (c 549755813888))
 (.guard (le (ln (one (v I 1))) (c 549755813888))
 (.jump 0 [a (v I 0),a (v I 1),a (app (v (L I) 2) (one (v I 1))),a (v (L B) 3),a (v (L B) 4)])))
 (.jump 0 [a (v I 0),a (v I 1),a (v (L I) 2),a (v (L B) 3),a (v (L B) 4)]))))
 (.jump 0 [a (v I 0),a (v I 1),a (v (L I) 2),a (v (L B) 3),a (v (L B) 4)]))))
 (.jump 0 [a (v I 0),a (v I 1),a (v (L I) 2),a (v (L B) 3),a (v (L B) 4)]))))))))
 (.ite (eq (v I 0) (c 2))
 (.guard (le (c 0) (v I 1))
 (.guard (lt (v I 1) (ln (v (L B) 3)))
 (.ite (ix (v (L B) 3) (v I 1))
 (.guard (le (c 0) (v I 1))
 (.guard (lt (v I 1) (ln (v (L B) 4)))
 (.ite (nt (ix (v (L B) 4) (v I 1)))
 (.guard (le (ln (v (L I) 2)) (c 549755813888))
 (.guard (le (ln (one (v I 1))) (c 549755813888))
 (.jump 0 [a (v I 0),a (v I 1),a (app (v (L I) 2) (one (v I 1))),a (v (L B) 3),a (v (L B) 4)])))
 (.jump 0 [a (v I 0),a (v I 1),a (v (L I) 2),a (v (L B) 3),a (v (L B) 4)]))))
 (.jump 0 [a (v I 0),a (v I 1),a (v (L I) 2),a (v (L B) 3),a (v (L B) 4)]))))
 (.jump 0 [a (v I 0),a (v I 1),a (v (L I) 2),a (v (L B) 3),a (v (L B) 4)]))))))
 (.ite (eq (v I 0) (c 1))
 (.guard (le (c 0) (v I 1))
 (.guard (lt (v I 1) (ln (v (L B) 3)))
 (.ite (ix (v (L B) 3) (v I 1))
 (.guard (le (ln (v (L I) 2)) (c 549755813888))
 (.guard (le (ln (one (v I 1))) (c 549755813888))
 (.jump 0 [a (v I 0),a (v I 1),a (app (v (L I) 2) (one (v I 1))),a (v (L B) 3),a (v (L B) 4)])))
 (.guard (le (c 0) (v I 1))
 (.guard (lt (v I 1) (ln (v (L B) 4)))
 (.ite (ix (v (L B) 4) (v I 1))
 (.guard (le (ln (v (L I) 2)) (c 549755813888))
 (.guard (le (ln (one (v I 1))) (c 549755813888))
 (.jump 0 [a (v I 0),a (v I 1),a (app (v (L I) 2) (one (v I 1))),a (v (L B) 3),a (v (L B) 4)])))
 (.ite (eq (v I 0) (c 2))
 (.guard (le (c 0) (v I 1))
 (.guard (lt (v I 1) (ln (v (L B) 3)))
 (.ite (ix (v (L B) 3) (v I 1))
 (.guard (le (c 0) (v I 1))
 (.guard (lt (v I 1) (ln (v (L B) 4)))
 (.ite (nt (ix (v (L B) 4) (v I 1)))
 (.guard (le (ln (v (L I) 2)) (c 549755813888))
 (.guard (le (ln (one (v I 1))) (c 549755813888))
 (.jump 0 [a (v I 0),a (v I 1),a (app (v (L I) 2) (one (v I 1))),a (v (L B) 3),a (v (L B) 4)])))
 (.jump 0 [a (v I 0),a (v I 1),a (v (L I) 2),a (v (L B) 3),a (v (L B) 4)]))))
 (.jump 0 [a (v I 0),a (v I 1),a (v (L I) 2),a (v (L B) 3),a (v (L B) 4)]))))
 (.jump 0 [a (v I 0),a (v I 1),a (v (L I) 2),a (v (L B) 3),a (v (L B) 4)]))))))))
 (.ite (eq (v I 0) (c 2))
 (.guard (le (c 0) (v I 1))
 (.guard (lt (v I 1) (ln (v (L B) 3)))
 (.ite (ix (v (L B) 3) (v I 1))
 (.guard (le (c 0) (v I 1))
 (.guard (lt (v I 1) (ln (v (L B) 4)))
 (.ite (nt (ix (v (L B) 4) (v I 1)))
 (.guard (le (ln (v (L I) 2)) (c 549755813888))
 (.guard (le (ln (one (v I 1))) (c 549755813888))
 (.jump 0 [a (v I 0),a (v I 1),a (app (v (L I) 2) (one (v I 1))),a (v (L B) 3),a (v (L B) 4)])))
 (.jump 0 [a (v I 0),a (v I 1),a (v (L I) 2),a (v (L B) 3),a (v (L B) 4)]))))
 (.jump 0 [a (v I 0),a (v I 1),a (v (L I) 2),a (v (L B) 3),a (v (L B) 4)]))))
 (.jump 0 [a (v I 0),a (v I 1),a (v (L I) 2),a (v (L B) 3),a (v (L B) 4)]))))))
 (.ite (eq (v I 0) (c 1))
 (.guard (le (c 0) (v I 1))
 (.guard (lt (v I 1) (ln (v (L B) 3)))
 (.ite (ix (v (L B) 3) (v I 1))
 (.guard (le (ln (v (L I) 2)) (c 549755813888))
 (.guard (le (ln (one (v I 1))) (c 549755813888))
 (.jump 0 [a (v I 0),a (v I 1),a (app (v (L I) 2) (one (v I 1))),a (v (L B) 3),a (v (L B) 4)])))
 (.guard (le (c 0) (v I 1))
 (.guard (lt (v I 1) (ln (v (L B) 4)))
 (.ite (ix (v (L B) 4) (v I 1))
 (.guard (le (ln (v (L I) 2)) (c 549755813888))
 (.guard (le (ln (one (v I 1))) (c 549755813888))
 (.jump 0 [a (v I 0),a (v I 1),a (app (v (L I) 2) (one (v I 1))),a (v (L B) 3),a (v (L B) 4)])))
 (.ite (eq (v I 0) (c 2))
 (.guard (le (c 0) (v I 1))
 (.guard (lt (v I 1) (ln (v (L B) 3)))
 (.ite (ix (v (L B) 3) (v I 1))
 (.guard (le (c 0) (v I 1))
 (.guard (lt (v I 1) (ln (v (L B) 4)))
 (.ite (nt (ix (v (L B) 4) (v I 1)))
 (.guard (le (ln (v (L I) 2)) (c 549755813888))
 (.guard (le (ln (one (v I 1))) (c 549755813888))
 (.jump 0 [a (v I 0),a (v I 1),a (app (v (L I) 2) (one (v I 1))),a (v (L B) 3),a (v (L B) 4)])))
 (.jump 0 [a (v I 0),a (v I 1),a (v (L I) 2),a (v (L B) 3),a (v (L B) 4)]))))
 (.jump 0 [a (v I 0),a (v I 1),a (v (L I) 2),a (v (L B) 3),a (v (L B) 4)]))))
 (.jump 0 [a (v I 0),a (v I 1),a (v (L I) 2),a (v (L B) 3),a (v (L B) 4)]))))))))
 (.ite (eq (v I 0) (c 2))
 (.guard (le (c 0) (v I 1))
 (.guard (lt (v I 1) (ln (v (L B) 3)))
 (.ite (ix (v (L B) 3) (v I 1))
 (.guard (le (c 0) (v I 1))
 (.guard (lt (v I 1) (ln (v (L B) 4)))
 (.ite (nt (ix (v (L B) 4) (v I 1)))
 (.guard (le (ln (v (L I) 2)) (c 549755813888))
 (.guard (le (ln (one (v I 1))) (c 549755813888))
 (.jump 0 [a (v I 0),a (v I 1),a (app (v (L I) 2) (one (v I 1))),a (v (L B) 3),a (v (L B) 4)])))
 (.jump 0 [a (v I 0),a (v I 1),a (v (L I) 2),a (v (L B) 3),a (v (L B) 4)]))))
 (.jump 0 [a (v I 0),a (v I 1),a (v (L I) 2),a (v (L B) 3),a (v (L B) 4)]))))
 (.jump 0 [a (v I 0),a (v I 1),a (v (L I) 2),a (v (L B) 3),a (v (L B) 4)]))))
 (.jump 0 [a (v I 0),a (add (v I 1) (c 1)),a (v (L I) 2),a (v (L B) 3),a (v (L B) 4)]))
 (.ret [a (v (L I) 2)]))))))))
def ZeS:Tr:=.call ZcT [a (v (L I) 0),a (v (L I) 1),a (c 2)] 100192
 (.ret [a (v (L I) 100192)])
def ZeT:Tr:=.guard (le (c 0) (ln (v (L (L I)) 0)))
 (.guard (le (ln (v (L (L I)) 0)) (c 549755813888))
 (.loop [a (v (L (L I)) 0),a (v (L B) 1),a (c 0),a (rep (ln (v (L (L I)) 0)) (z B))]
 (.ite (lt (v I 2) (ln (v (L (L I)) 0)))
 (.loop [a (v (L (L I)) 0),a (v (L B) 1),a (v I 2),a (c 0),a (v (L B) 3)]
 (.guard (le (c 0) (v I 2))
 (.guard (lt (v I 2) (ln (v (L (L I)) 0)))
 (.ite (lt (v I 3) (ln (ix (v (L (L I)) 0) (v I 2))))
 (.join
 (.guard (le (c 0) (v I 2))
 (.guard (lt (v I 2) (ln (v (L (L I)) 0)))
 (.guard (le (c 0) (v I 3))
 (.guard (lt (v I 3) (ln (ix (v (L (L I)) 0) (v I 2))))
 (.guard (le (c 0) (ix (ix (v (L (L I)) 0) (v I 2)) (v I 3)))
 (.guard (lt (ix (ix (v (L (L I)) 0) (v I 2)) (v I 3)) (ln (v (L B) 1)))
 (.ite (ix (v (L B) 1) (ix (ix (v (L (L I)) 0) (v I 2)) (v I 3)))
 (.guard (le (c 0) (v I 2))
 (.guard (lt (v I 2) (ln (v (L B) 4)))
 (.jump 0 [a (v (L (L I)) 0),a (v (L B) 1),a (v I 2),a (v I 3),a (st (v (L B) 4) (v I 2) (k true))])))
 (.jump 0 [a (v (L (L I)) 0),a (v (L B) 1),a (v I 2),a (v I 3),a (v (L B) 4)]))))))))
 (.jump 0 [a (v (L (L I)) 0),a (v (L B) 1),a (v I 2),a (add (v I 3) (c 1)),a (v (L B) 4)]))
 (.jump 1 [a (v (L (L I)) 0),a (v (L B) 1),a (add (v I 2) (c 1)),a (v (L B) 4)])))))
 (.ret [a (v (L B) 3)]))))
def ZeU:Tr:=.loop [a (v (L B) 0),a (c 0),a (nl I)]
 (.ite (lt (v I 1) (ln (v (L B) 0)))
 (.join
 (.guard (le (c 0) (v I 1))
 (.guard (lt (v I 1) (ln (v (L B) 0)))
 (.ite (ix (v (L B) 0) (v I 1))
 (.guard (le (ln (v (L I) 2)) (c 549755813888))
 (.guard (le (ln (one (v I 1))) (c 549755813888))
 (.jump 0 [a (v (L B) 0),a (v I 1),a (app (v (L I) 2) (one (v I 1)))])))
 (.jump 0 [a (v (L B) 0),a (v I 1),a (v (L I) 2)]))))
 (.jump 0 [a (v (L B) 0),a (add (v I 1) (c 1)),a (v (L I) 2)]))
 (.ret [a (v (L I) 2)]))
def ZeV:Tr:=.call ZbJ [a (v (L V3) 0),a (v (L TR) 1),a (v (L I) 2),a (v (L I) 3),a (v (L I) 4)] 100384
 (.ite (eq (ln (v (L (L I)) 100384)) (c 0))
 (.ret [a (nl I)])
 (.call Zbw [a (v (L V3) 0),a (v (L TR) 1)] 100768
 (.call Zby [a (v (L I) 4),a (ln (v (L (L I)) 100768))] 101088
 (.guard (le (c 0) (ln (v (L (L I)) 100768)))
 (.guard (le (ln (v (L (L I)) 100768)) (c 549755813888))
 (.loop [a (c 0),a (v (L (L I)) 100384),a (v (L (L I)) 100768),a (v (L B) 101088),a (rep (ln (v (L (L I)) 100768)) (z B))]
 (.ite (lt (v I 0) (ln (v (L (L I)) 1)))
 (.loop [a (v I 0),a (c 0),a (v (L (L I)) 1),a (v (L (L I)) 2),a (v (L B) 3),a (v (L B) 4)]
 (.guard (le (c 0) (v I 0))
 (.guard (lt (v I 0) (ln (v (L (L I)) 2)))
 (.ite (lt (v I 1) (ln (ix (v (L (L I)) 2) (v I 0))))
 (.guard (le (c 0) (v I 0))
 (.guard (lt (v I 0) (ln (v (L (L I)) 2)))
 (.guard (le (c 0) (v I 1))
 (.guard (lt (v I 1) (ln (ix (v (L (L I)) 2) (v I 0))))
 (.guard (le (c 0) (ix (ix (v (L (L I)) 2) (v I 0)) (v I 1)))
 (.guard (lt (ix (ix (v (L (L I)) 2) (v I 0)) (v I 1)) (ln (v (L B) 5)))
 (.jump 0 [a (v I 0),a (add (v I 1) (c 1)),a (v (L (L I)) 2),a (v (L (L I)) 3),a (v (L B) 4),a (st (v (L B) 5) (ix (ix (v (L (L I)) 2) (v I 0)) (v I 1)) (k true))])))))))
 (.jump 1 [a (add (v I 0) (c 1)),a (v (L (L I)) 2),a (v (L (L I)) 3),a (v (L B) 4),a (v (L B) 5)])))))
 (.loop [a (c 0),a (v (L (L I)) 2),a (v (L B) 3),a (v (L B) 4)]
 (.ite (lt (v I 0) (ln (v (L (L I)) 1)))
 (.call ZcV [a (v (L (L I)) 1),a (v (L B) 3)] 391
 (.loop [a (v I 0),a (c 0),a (v (L (L I)) 1),a (v (L B) 2),a (v (L B) 3),a (v (L B) 391)]
 (.ite (lt (v I 1) (ln (v (L (L I)) 2)))
 (.join
 (.guard (le (c 0) (v I 1))
 (.guard (lt (v I 1) (ln (v (L B) 4)))
 (.ite (ix (v (L B) 4) (v I 1))
 (.guard (le (c 0) (v I 1))
 (.guard (lt (v I 1) (ln (v (L B) 4)))
 (.jump 0 [a (v I 0),a (v I 1),a (v (L (L I)) 2),a (v (L B) 3),a (st (v (L B) 4) (v I 1) (k true)),a (v (L B) 5)])))
 (.guard (le (c 0) (v I 1))
 (.guard (lt (v I 1) (ln (v (L B) 5)))
 (.ite (ix (v (L B) 5) (v I 1))
 (.guard (le (c 0) (v I 1))
 (.guard (lt (v I 1) (ln (v (L B) 3)))
 (.guard (le (c 0) (v I 1))
 (.guard (lt (v I 1) (ln (v (L B) 4)))
 (.jump 0 [a (v I 0),a (v I 1),a (v (L (L I)) 2),a (v (L B) 3),a (st (v (L B) 4) (v I 1) (ix (v (L B) 3) (v I 1))),a (v (L B) 5)])))))
 (.guard (le (c 0) (v I 1))
 (.guard (lt (v I 1) (ln (v (L B) 4)))
 (.jump 0 [a (v I 0),a (v I 1),a (v (L (L I)) 2),a (v (L B) 3),a (st (v (L B) 4) (v I 1) (k false)),a (v (L B) 5)])))))))))
 (.jump 0 [a (v I 0),a (add (v I 1) (c 1)),a (v (L (L I)) 2),a (v (L B) 3),a (v (L B) 4),a (v (L B) 5)]))
 (.jump 1 [a (add (v I 0) (c 1)),a (v (L (L I)) 2),a (v (L B) 3),a (v (L B) 4)]))))
 (.call ZcW [a (v (L B) 3)] 327
 (.ret [a (v (L I) 327)])))))))))))
def ZeW:Tr:=.call Zbe [a (v (L V3) 0),a (v (L TR) 1),a (v (L I) 2),a (v (L I) 3)] 100320
 (.ite (nt (v B 100320))
 (.ret [a (k false)])
 (.call Zba [a (v (L T4) 4),a (ln (v (L V3) 0)),a (c 2)] 100768
 (.ite (nt (v B 100768))
 (.ret [a (k false)])
 (.call Zbf [a (v (L V3) 0),a (v (L TR) 1)] 101152
 (.call ZcF [a (c 0),a (v I 101152)] 101216
 (.call ZcR [a (v (L V3) 0),a (v (L TR) 1),a (v (L T4) 4)] 101280
 (.call ZcU [a (v (L I) 101216),a (v (L I) 101280)] 101344
 (.call ZcX [a (v (L V3) 0),a (v (L TR) 1),a (v (L I) 2),a (v (L I) 3),a (v (L I) 101344)] 101856
 (.call Zbh [a (v (L V3) 0),a (v (L TR) 1)] 101920
 (.call Zbv [a (v (L V3) 0),a (v (L TR) 1),a (v (L I) 101920)] 101984
 (.call Zbz [a (v (L I) 101856),a (v I 101984)] 102048
 (.ret [a (nt (v B 102048))]))))))))))))
end Go.Proofs.YtknlennollmgeaaGreat
namespace Go.Proofs.YtknlennollmgeaaGreat
open Go Go.Sm Go.Sm.Q
def ZeX:Tr:=.ite (gt (ln (v (L U) 0)) (c 1048576))
 (.ret [a (k true)])
 (.call ZcL [a (v (L U) 0)] 100320
 (.call ZcQ [a (v (L V3) 100320),a (v (L TR) 100321),a (v (L I) 100322),a (v (L I) 100323),a (v (L T4) 100324)] 101280
 (.call ZcY [a (v (L V3) 100320),a (v (L TR) 100321),a (v (L I) 100322),a (v (L I) 100323),a (v (L T4) 100324)] 101728
 (.ite (.o2 .bne (v B 101280) (v B 101728))
 (.ret [a (k false)])
 (.call ZbR [a (v (L V3) 100320),a (v (L TR) 100321)] 102048
 (.call Zbc [a (v (L V3) 100320),a (v (L TR) 100321)] 102112
 (.ite (.o2 .bne (v B 102048) (v B 102112))
 (.ret [a (k false)])
 (.loop [a (v (L I) 100322),a (v (L I) 100323),a (v (L T4) 100324),a (v B 101280),a (ln (v (L TR) 100321)),a (c 0),a (v (L V3) 100320),a (v (L TR) 100321),a (nl I)]
 (.ite (lt (v I 5) (v I 4))
 (.guard (le (ln (v (L I) 8)) (c 549755813888))
 (.guard (le (ln (one (v I 5))) (c 549755813888))
 (.jump 0 [a (v (L I) 0),a (v (L I) 1),a (v (L T4) 2),a (v B 3),a (v I 4),a (add (v I 5) (c 1)),a (v (L V3) 6),a (v (L TR) 7),a (app (v (L I) 8) (one (v I 5)))])))
 (.ite (nt (v B 3))
 (.ret [a (k true)])
 (.call ZcQ [a (v (L V3) 6),a (v (L TR) 7),a (v (L I) 0),a (v (L I) 8),a (v (L T4) 2)] 523
 (.ite (v B 523)
 (.call ZcQ [a (v (L V3) 6),a (v (L TR) 7),a (v (L I) 8),a (v (L I) 1),a (v (L T4) 2)] 907
 (.ret [a (v B 907)]))
 (.ret [a (k false)])))))))))))))
end Go.Proofs.YtknlennollmgeaaGreat
namespace Go.Proofs.YtknlennollmgeaaGreat
open Go Go.Sm Go.Sm.Q
set_option maxRecDepth 100000
def trL:List (Nat×Tr):=[
(Zb5,Zd2),
(Zb6,Zd3),
(Zb7,Zd4),
(Zb8,Zd5),
(Zb9,Zd6),
(Zba,Zd7),
(Zbb,Zd8),
(Zbc,Zd9),
(Zbd,Zda),
(Zbe,Zdb),
(Zbf,Zdc),
(Zbg,Zdd),
(Zbh,Zde),
(Zbi,Zdf),
(Zbj,Zdg),
(Zbk,Zdh),
(Zbl,Zdi),
(Zbm,Zdj),
(Zbn,Zdk),
(Zbo,Zdl),
(Zbp,Zdm),
(Zbq,Zdn),
(Zbr,Zdo),
(Zbs,Zdp),
(Zbt,Zdq),
(Zbu,Zdr),
(Zbv,Zds),
(Zbw,Zdt),
(Zbx,Zdu),
(Zby,Zdv),
(Zbz,Zdw),
(ZbA,Zdx),
(ZbB,Zdy),
(ZbC,Zdz),
(ZbD,ZdA),
(ZbE,ZdB),
(ZbF,ZdC),
(ZbG,ZdD),
(ZbH,ZdE),
(ZbI,ZdF),
(ZbJ,ZdG),
(ZbK,ZdH),
(ZbL,ZdI),
(ZbM,ZdJ),
(ZbN,ZdK),
(ZbO,ZdL),
(ZbP,ZdM),
(ZbQ,ZdN),
(ZbR,ZdO),
(ZbS,ZdP),
(ZbT,ZdQ),
(ZbU,ZdR),
(ZbV,ZdS),
(ZbW,ZdT),
(ZbX,ZdU),
(ZbY,ZdV),
(ZbZ,ZdW),
(Zb_,ZdX),
(Zc0,ZdY),
(Zc1,ZdZ),
(Zc2,Zd_),
(Zc3,Ze0),
(Zc4,Ze1),
(Zc5,Ze2),
(Zc6,Ze3),
(Zc7,Ze4),
(Zc8,Ze5),
(Zc9,Ze6),
(Zca,Ze7),
(Zcb,Ze8),
(Zcc,Ze9),
(Zcd,Zea),
(Zce,Zeb),
(Zcf,Zec),
(Zcg,Zed),
(Zch,Zee),
(Zci,Zef),
(Zcj,Zeg),
(Zck,Zeh),
(Zcl,Zei),
(Zcm,Zej),
(Zcn,Zek),
(ZG,Zel),
(Zco,Zem),
(Zcp,Zen),
(Zcq,Zeo),
(Zcr,Zep),
(Zcs,Zeq),
(Zct,Zer),
(Zcu,Zes),
(Zcv,Zet),
(Zcw,Zeu),
(Zcx,Zev),
(Zcy,Zew),
(Zcz,Zex),
(ZcA,Zey),
(ZcB,Zez),
(ZcC,ZeA),
(ZcD,ZeB),
(ZcE,ZeC),
(ZcF,ZeD),
(ZcG,ZeE),
(ZcH,ZeF),
(ZcI,ZeG),
(ZcJ,ZeH),
(ZcK,ZeI),
(ZcL,ZeJ),
(ZcM,ZeK),
(ZcN,ZeL),
(ZcO,ZeM),
(ZcP,ZeN),
(ZcQ,ZeO),
(ZcR,ZeP),
(ZcS,ZeQ),
(ZcT,ZeR),
(ZcU,ZeS),
(ZcV,ZeT),
(ZcW,ZeU),
(ZcX,ZeV),
(ZcY,ZeW),
(ZcZ,ZeX)]
def haL:List Nat:=[]
def mc:Mc:=⟨fun f=>(trL.find? (·.1==f)).map (·.2),fun f ins=>if haL.contains f then some ins else none⟩
theorem ZeY:mc.F Zb5=some Zd2:=rfl
theorem ZeZ:mc.F Zb6=some Zd3:=rfl
theorem Ze_:mc.F Zb7=some Zd4:=rfl
theorem Zf0:mc.F Zb8=some Zd5:=rfl
theorem Zf1:mc.F Zb9=some Zd6:=rfl
theorem Zf2:mc.F Zba=some Zd7:=rfl
theorem Zf3:mc.F Zbb=some Zd8:=rfl
theorem Zf4:mc.F Zbc=some Zd9:=rfl
theorem Zf5:mc.F Zbd=some Zda:=rfl
theorem Zf6:mc.F Zbe=some Zdb:=rfl
theorem Zf7:mc.F Zbf=some Zdc:=rfl
theorem Zf8:mc.F Zbg=some Zdd:=rfl
theorem Zf9:mc.F Zbh=some Zde:=rfl
theorem Zfa:mc.F Zbi=some Zdf:=rfl
theorem Zfb:mc.F Zbj=some Zdg:=rfl
theorem Zfc:mc.F Zbk=some Zdh:=rfl
theorem Zfd:mc.F Zbl=some Zdi:=rfl
theorem Zfe:mc.F Zbm=some Zdj:=rfl
theorem Zff:mc.F Zbn=some Zdk:=rfl
theorem Zfg:mc.F Zbo=some Zdl:=rfl
theorem Zfh:mc.F Zbp=some Zdm:=rfl
theorem Zfi:mc.F Zbq=some Zdn:=rfl
theorem Zfj:mc.F Zbr=some Zdo:=rfl
theorem Zfk:mc.F Zbs=some Zdp:=rfl
theorem Zfl:mc.F Zbt=some Zdq:=rfl
theorem Zfm:mc.F Zbu=some Zdr:=rfl
theorem Zfn:mc.F Zbv=some Zds:=rfl
theorem Zfo:mc.F Zbw=some Zdt:=rfl
theorem Zfp:mc.F Zbx=some Zdu:=rfl
theorem Zfq:mc.F Zby=some Zdv:=rfl
theorem Zfr:mc.F Zbz=some Zdw:=rfl
theorem Zfs:mc.F ZbA=some Zdx:=rfl
theorem Zft:mc.F ZbB=some Zdy:=rfl
theorem Zfu:mc.F ZbC=some Zdz:=rfl
theorem Zfv:mc.F ZbD=some ZdA:=rfl
theorem Zfw:mc.F ZbE=some ZdB:=rfl
theorem Zfx:mc.F ZbF=some ZdC:=rfl
theorem Zfy:mc.F ZbG=some ZdD:=rfl
theorem Zfz:mc.F ZbH=some ZdE:=rfl
theorem ZfA:mc.F ZbI=some ZdF:=rfl
theorem ZfB:mc.F ZbJ=some ZdG:=rfl
theorem ZfC:mc.F ZbK=some ZdH:=rfl
theorem ZfD:mc.F ZbL=some ZdI:=rfl
theorem ZfE:mc.F ZbM=some ZdJ:=rfl
theorem ZfF:mc.F ZbN=some ZdK:=rfl
theorem ZfG:mc.F ZbO=some ZdL:=rfl
theorem ZfH:mc.F ZbP=some ZdM:=rfl
theorem ZfI:mc.F ZbQ=some ZdN:=rfl
theorem ZfJ:mc.F ZbR=some ZdO:=rfl
theorem ZfK:mc.F ZbS=some ZdP:=rfl
theorem ZfL:mc.F ZbT=some ZdQ:=rfl
theorem ZfM:mc.F ZbU=some ZdR:=rfl
theorem ZfN:mc.F ZbV=some ZdS:=rfl
theorem ZfO:mc.F ZbW=some ZdT:=rfl
theorem ZfP:mc.F ZbX=some ZdU:=rfl
theorem ZfQ:mc.F ZbY=some ZdV:=rfl
theorem ZfR:mc.F ZbZ=some ZdW:=rfl
theorem ZfS:mc.F Zb_=some ZdX:=rfl
theorem ZfT:mc.F Zc0=some ZdY:=rfl
theorem ZfU:mc.F Zc1=some ZdZ:=rfl
theorem ZfV:mc.F Zc2=some Zd_:=rfl
theorem ZfW:mc.F Zc3=some Ze0:=rfl
theorem ZfX:mc.F Zc4=some Ze1:=rfl
theorem ZfY:mc.F Zc5=some Ze2:=rfl
theorem ZfZ:mc.F Zc6=some Ze3:=rfl
theorem Zf_:mc.F Zc7=some Ze4:=rfl
theorem Zg0:mc.F Zc8=some Ze5:=rfl
theorem Zg1:mc.F Zc9=some Ze6:=rfl
theorem Zg2:mc.F Zca=some Ze7:=rfl
theorem Zg3:mc.F Zcb=some Ze8:=rfl
theorem Zg4:mc.F Zcc=some Ze9:=rfl
theorem Zg5:mc.F Zcd=some Zea:=rfl
theorem Zg6:mc.F Zce=some Zeb:=rfl
theorem Zg7:mc.F Zcf=some Zec:=rfl
theorem Zg8:mc.F Zcg=some Zed:=rfl
theorem Zg9:mc.F Zch=some Zee:=rfl
theorem Zga:mc.F Zci=some Zef:=rfl
theorem Zgb:mc.F Zcj=some Zeg:=rfl
theorem Zgc:mc.F Zck=some Zeh:=rfl
theorem Zgd:mc.F Zcl=some Zei:=rfl
theorem Zge:mc.F Zcm=some Zej:=rfl
theorem Zgf:mc.F Zcn=some Zek:=rfl
theorem Zgg:mc.F ZG=some Zel:=rfl
theorem Zgh:mc.F Zco=some Zem:=rfl
theorem Zgi:mc.F Zcp=some Zen:=rfl
theorem Zgj:mc.F Zcq=some Zeo:=rfl
theorem Zgk:mc.F Zcr=some Zep:=rfl
theorem Zgl:mc.F Zcs=some Zeq:=rfl
theorem Zgm:mc.F Zct=some Zer:=rfl
theorem Zgn:mc.F Zcu=some Zes:=rfl
theorem Zgo:mc.F Zcv=some Zet:=rfl
theorem Zgp:mc.F Zcw=some Zeu:=rfl
theorem Zgq:mc.F Zcx=some Zev:=rfl
theorem Zgr:mc.F Zcy=some Zew:=rfl
theorem Zgs:mc.F Zcz=some Zex:=rfl
theorem Zgt:mc.F ZcA=some Zey:=rfl
theorem Zgu:mc.F ZcB=some Zez:=rfl
theorem Zgv:mc.F ZcC=some ZeA:=rfl
theorem Zgw:mc.F ZcD=some ZeB:=rfl
theorem Zgx:mc.F ZcE=some ZeC:=rfl
theorem Zgy:mc.F ZcF=some ZeD:=rfl
theorem Zgz:mc.F ZcG=some ZeE:=rfl
theorem ZgA:mc.F ZcH=some ZeF:=rfl
theorem ZgB:mc.F ZcI=some ZeG:=rfl
theorem ZgC:mc.F ZcJ=some ZeH:=rfl
theorem ZgD:mc.F ZcK=some ZeI:=rfl
theorem ZgE:mc.F ZcL=some ZeJ:=rfl
theorem ZgF:mc.F ZcM=some ZeK:=rfl
theorem ZgG:mc.F ZcN=some ZeL:=rfl
theorem ZgH:mc.F ZcO=some ZeM:=rfl
theorem ZgI:mc.F ZcP=some ZeN:=rfl
theorem ZgJ:mc.F ZcQ=some ZeO:=rfl
theorem ZgK:mc.F ZcR=some ZeP:=rfl
theorem ZgL:mc.F ZcS=some ZeQ:=rfl
theorem ZgM:mc.F ZcT=some ZeR:=rfl
theorem ZgN:mc.F ZcU=some ZeS:=rfl
theorem ZgO:mc.F ZcV=some ZeT:=rfl
theorem ZgP:mc.F ZcW=some ZeU:=rfl
theorem ZgQ:mc.F ZcX=some ZeV:=rfl
theorem ZgR:mc.F ZcY=some ZeW:=rfl
theorem ZgS:mc.F ZcZ=some ZeX:=rfl
end Go.Proofs.YtknlennollmgeaaGreat
