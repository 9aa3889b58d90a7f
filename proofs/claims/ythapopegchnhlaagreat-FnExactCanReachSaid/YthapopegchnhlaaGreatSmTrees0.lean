/- What the functions of the law come to, as trees; printed by a program; no condition. -/
import Derived.Test.YthapopegchnhlaaGreatSmLib4
namespace Go.Proofs.YthapopegchnhlaaGreat
open Go Go.Sm Go.Sm.Q
abbrev f_laws_szVarS : Nat := 49
abbrev f_laws_szTermS : Nat := 51
abbrev f_laws_szIntS : Nat := 52
abbrev f_laws_szTermSS : Nat := 10
abbrev f_laws_szRule : Nat := 119
abbrev f_laws_szRuleS : Nat := 50
abbrev f_laws_szSystem : Nat := 9
abbrev f_laws_toVar : Nat := 123
abbrev f_laws_toVarS : Nat := 56
abbrev f_laws_toTerm : Nat := 125
abbrev f_laws_toTermS : Nat := 58
abbrev f_laws_toIntS : Nat := 34
abbrev f_laws_toTermSS : Nat := 15
abbrev f_laws_toRule : Nat := 124
abbrev f_laws_toRuleS : Nat := 57
abbrev f_laws_toSystem : Nat := 14
abbrev f_spec_l1In : Nat := 73
abbrev f_spec_l1One : Nat := 217
abbrev f_spec_l1Kind : Nat := 208
abbrev f_spec_KindsOf : Nat := 174
abbrev f_spec_l2Is : Nat := 120
abbrev f_spec_l2Var : Nat := 146
abbrev f_spec_l2Rule : Nat := 147
abbrev f_spec_SystemValid : Nat := 72
abbrev f_spec_FirstState : Nat := 105
abbrev f_spec_l2Same : Nat := 103
abbrev f_spec_l2In : Nat := 106
abbrev f_spec_l1Held : Nat := 234
abbrev f_spec_l1Truth : Nat := 213
abbrev f_spec_l1Do : Nat := 209
abbrev f_spec_l1Values : Nat := 175
abbrev f_spec_l2Last : Nat := 121
abbrev f_spec_l2Use : Nat := 170
abbrev f_spec_l2Less : Nat := 225
abbrev f_spec_l2Put : Nat := 193
abbrev f_spec_l2Next : Nat := 152
abbrev f_impl_in : Nat := 70
abbrev f_impl_varOk : Nat := 140
abbrev f_impl_size : Nat := 75
abbrev f_impl_parts : Nat := 215
abbrev f_impl_kindsOf : Nat := 180
abbrev f_impl_kindOf : Nat := 128
abbrev f_impl_ruleOk : Nat := 143
abbrev f_impl_SystemValid : Nat := 69
abbrev f_impl_inRange : Nat := 100
abbrev f_impl_clone_int : Nat := 108
abbrev f_impl_held : Nat := 223
abbrev f_impl_bit : Nat := 224
abbrev f_impl_do : Nat := 192
abbrev f_impl_eval : Nat := 150
abbrev f_impl_use : Nat := 78
abbrev f_laws_eqVar : Nat := 131
abbrev f_laws_eqVarS : Nat := 64
abbrev f_laws_eqTerm : Nat := 133
abbrev f_laws_eqTermS : Nat := 66
abbrev f_laws_eqIntS : Nat := 36
abbrev f_laws_eqTermSS : Nat := 20
abbrev f_laws_eqRule : Nat := 132
abbrev f_laws_eqRuleS : Nat := 65
abbrev f_laws_eqSystem : Nat := 19
abbrev f_cmp_isNaN_int : Nat := 247
abbrev f_spec_l2Has : Nat := 151
abbrev f_spec_SizeOf : Nat := 27
abbrev f_impl_stateAt : Nat := 76
abbrev f_spec_SetValid : Nat := 81
abbrev f_spec_l3Copy : Nat := 194
abbrev f_spec_l4State : Nat := 153
abbrev f_spec_l4Number : Nat := 154
abbrev f_spec_l4Steps : Nat := 86
abbrev f_spec_l5Turned : Nat := 85
abbrev f_spec_l4Marks : Nat := 87
abbrev f_spec_l5Steps : Nat := 84
abbrev f_spec_l5Told : Nat := 83
abbrev f_spec_l4List : Nat := 82
abbrev f_spec_CanReach : Nat := 33
abbrev f_impl_setOk : Nat := 155
abbrev f_impl_SetValid : Nat := 88
abbrev f_cmp_Compare_int : Nat := 226
abbrev f_slices_Compare_Sint_int : Nat := 196
abbrev f_slices_Reverse_SSint_Sint : Nat := 256
abbrev f_impl_clone_Sint : Nat := 198
abbrev f_impl_nextStates : Nat := 157
abbrev f_impl_number : Nat := 158
abbrev f_impl_nexts : Nat := 92
abbrev f_impl_pasts : Nat := 91
abbrev f_impl_reach : Nat := 90
abbrev f_impl_listOf : Nat := 89
abbrev f_impl_CanReach : Nat := 35
abbrev f_laws_markVarS : Nat := 93
abbrev f_laws_markTermS : Nat := 159
abbrev f_laws_markIntS : Nat := 38
abbrev f_laws_markTermSS : Nat := 160
abbrev f_laws_markRuleS : Nat := 94
abbrev f_laws_markSystem : Nat := 37
abbrev f_laws_heldIntS : Nat := 39
abbrev f_laws_FnExactCanReach : Nat := 5
abbrev f_slices_Insert_SSint_Sint : Nat := 197
abbrev f_slices_Clone_Sint_int : Nat := 156
def tr_laws_szVarS : Tr := .ite (lt (sub (v I 1) (ln (v (L V3) 0))) (c 0))
 (.ret [a (c (-1))])
 (.ret [a (sub (v I 1) (ln (v (L V3) 0)))])
def tr_laws_szTermS : Tr := .ite (lt (sub (v I 1) (ln (v (L T4) 0))) (c 0))
 (.ret [a (c (-1))])
 (.ret [a (sub (v I 1) (ln (v (L T4) 0)))])
def tr_laws_szIntS : Tr := .ite (lt (sub (v I 1) (ln (v (L I) 0))) (c 0))
 (.ret [a (c (-1))])
 (.ret [a (sub (v I 1) (ln (v (L I) 0)))])
def tr_laws_szTermSS : Tr := .ite (lt (sub (v I 1) (ln (v (L (L T4)) 0))) (c 0))
 (.ret [a (c (-1))])
 (.loop [a (v (L (L T4)) 0), a (sub (v I 1) (ln (v (L (L T4)) 0))), a (c 0)]
  (.ite (lt (v I 2) (ln (v (L (L T4)) 0)))
   (.guard (le (c 0) (v I 2))
    (.guard (lt (v I 2) (ln (v (L (L T4)) 0)))
     (.call f_laws_szTermS [a (ix (v (L (L T4)) 0) (v I 2)), a (v I 1)] 579
      (.ite (lt (v I 579) (c 0))
       (.ret [a (c (-1))])
       (.jump 0 [a (v (L (L T4)) 0), a (v I 579), a (add (v I 2) (c 1))])))))
   (.ret [a (v I 1)])))
def tr_laws_szRule : Tr := .call f_laws_szTermS [a (v (L T4) 0), a (v I 3)] 100320
 (.ite (lt (v I 100320) (c 0))
  (.ret [a (c (-1))])
  (.call f_laws_szIntS [a (v (L I) 1), a (v I 100320)] 100768
   (.ite (lt (v I 100768) (c 0))
    (.ret [a (c (-1))])
    (.call f_laws_szTermSS [a (v (L (L T4)) 2), a (v I 100768)] 101216
     (.ite (lt (v I 101216) (c 0))
      (.ret [a (c (-1))])
      (.ret [a (v I 101216)]))))))
def tr_laws_szRuleS : Tr := .ite (lt (sub (v I 1) (ln (v (L TR) 0))) (c 0))
 (.ret [a (c (-1))])
 (.loop [a (v (L TR) 0), a (sub (v I 1) (ln (v (L TR) 0))), a (c 0)]
  (.ite (lt (v I 2) (ln (v (L TR) 0)))
   (.guard (le (c 0) (v I 2))
    (.guard (lt (v I 2) (ln (v (L TR) 0)))
     (.call f_laws_szRule [a (f (ix (v (L TR) 0) (v I 2))), a (f (s (ix (v (L TR) 0) (v I 2)))), a (s (s (ix (v (L TR) 0) (v I 2)))), a (v I 1)] 579
      (.ite (lt (v I 579) (c 0))
       (.ret [a (c (-1))])
       (.jump 0 [a (v (L TR) 0), a (v I 579), a (add (v I 2) (c 1))])))))
   (.ret [a (v I 1)])))
def tr_laws_szSystem : Tr := .call f_laws_szVarS [a (v (L V3) 0), a (v I 2)] 100320
 (.ite (lt (v I 100320) (c 0))
  (.ret [a (c (-1))])
  (.call f_laws_szRuleS [a (v (L TR) 1), a (v I 100320)] 100768
   (.ite (lt (v I 100768) (c 0))
    (.ret [a (c (-1))])
    (.ret [a (v I 100768)]))))
def tr_laws_toVar : Tr := .ret [a (v I 0), a (v I 1), a (v I 2)]
def tr_laws_toVarS : Tr := .guard (le (c 0) (ln (v (L V3) 0)))
 (.guard (le (ln (v (L V3) 0)) (c 549755813888))
  (.loop [a (v (L V3) 0), a (c 0), a (rep (ln (v (L V3) 0)) (z V3))]
   (.ite (lt (v I 1) (ln (v (L V3) 0)))
    (.guard (le (c 0) (v I 1))
     (.guard (lt (v I 1) (ln (v (L V3) 0)))
      (.call f_laws_toVar [a (f (ix (v (L V3) 0) (v I 1))), a (f (s (ix (v (L V3) 0) (v I 1)))), a (s (s (ix (v (L V3) 0) (v I 1))))] 644
       (.guard (le (c 0) (v I 1))
        (.guard (lt (v I 1) (ln (v (L V3) 2)))
         (.jump 0 [a (v (L V3) 0), a (add (v I 1) (c 1)), a (st (v (L V3) 2) (v I 1) (pr (v I 644) (pr (v I 645) (v I 646))))]))))))
    (.ret [a (v (L V3) 2)]))))
def tr_laws_toTerm : Tr := .ret [a (v I 0), a (v I 1), a (v I 2), a (v I 3)]
def tr_laws_toTermS : Tr := .guard (le (c 0) (ln (v (L T4) 0)))
 (.guard (le (ln (v (L T4) 0)) (c 549755813888))
  (.loop [a (v (L T4) 0), a (c 0), a (rep (ln (v (L T4) 0)) (z T4))]
   (.ite (lt (v I 1) (ln (v (L T4) 0)))
    (.guard (le (c 0) (v I 1))
     (.guard (lt (v I 1) (ln (v (L T4) 0)))
      (.call f_laws_toTerm [a (f (ix (v (L T4) 0) (v I 1))), a (f (s (ix (v (L T4) 0) (v I 1)))), a (f (s (s (ix (v (L T4) 0) (v I 1))))), a (s (s (s (ix (v (L T4) 0) (v I 1)))))] 644
       (.guard (le (c 0) (v I 1))
        (.guard (lt (v I 1) (ln (v (L T4) 2)))
         (.jump 0 [a (v (L T4) 0), a (add (v I 1) (c 1)), a (st (v (L T4) 2) (v I 1) (pr (v I 644) (pr (v I 645) (pr (v I 646) (v I 647)))))]))))))
    (.ret [a (v (L T4) 2)]))))
def tr_laws_toIntS : Tr := .guard (le (c 0) (ln (v (L I) 0)))
 (.guard (le (ln (v (L I) 0)) (c 549755813888))
  (.loop [a (v (L I) 0), a (c 0), a (rep (ln (v (L I) 0)) (z I))]
   (.ite (lt (v I 1) (ln (v (L I) 0)))
    (.guard (le (c 0) (v I 1))
     (.guard (lt (v I 1) (ln (v (L I) 0)))
      (.guard (le (c 0) (v I 1))
       (.guard (lt (v I 1) (ln (v (L I) 2)))
        (.jump 0 [a (v (L I) 0), a (add (v I 1) (c 1)), a (st (v (L I) 2) (v I 1) (ix (v (L I) 0) (v I 1)))])))))
    (.ret [a (v (L I) 2)]))))
def tr_laws_toTermSS : Tr := .guard (le (c 0) (ln (v (L (L T4)) 0)))
 (.guard (le (ln (v (L (L T4)) 0)) (c 549755813888))
  (.loop [a (v (L (L T4)) 0), a (c 0), a (rep (ln (v (L (L T4)) 0)) (z (L T4)))]
   (.ite (lt (v I 1) (ln (v (L (L T4)) 0)))
    (.guard (le (c 0) (v I 1))
     (.guard (lt (v I 1) (ln (v (L (L T4)) 0)))
      (.call f_laws_toTermS [a (ix (v (L (L T4)) 0) (v I 1))] 644
       (.guard (le (c 0) (v I 1))
        (.guard (lt (v I 1) (ln (v (L (L T4)) 2)))
         (.jump 0 [a (v (L (L T4)) 0), a (add (v I 1) (c 1)), a (st (v (L (L T4)) 2) (v I 1) (v (L T4) 644))]))))))
    (.ret [a (v (L (L T4)) 2)]))))
def tr_laws_toRule : Tr := .call f_laws_toTermS [a (v (L T4) 0)] 100320
 (.call f_laws_toIntS [a (v (L I) 1)] 100640
  (.call f_laws_toTermSS [a (v (L (L T4)) 2)] 100960
   (.ret [a (v (L T4) 100320), a (v (L I) 100640), a (v (L (L T4)) 100960)])))
def tr_laws_toRuleS : Tr := .guard (le (c 0) (ln (v (L TR) 0)))
 (.guard (le (ln (v (L TR) 0)) (c 549755813888))
  (.loop [a (v (L TR) 0), a (c 0), a (rep (ln (v (L TR) 0)) (z TR))]
   (.ite (lt (v I 1) (ln (v (L TR) 0)))
    (.guard (le (c 0) (v I 1))
     (.guard (lt (v I 1) (ln (v (L TR) 0)))
      (.call f_laws_toRule [a (f (ix (v (L TR) 0) (v I 1))), a (f (s (ix (v (L TR) 0) (v I 1)))), a (s (s (ix (v (L TR) 0) (v I 1))))] 644
       (.guard (le (c 0) (v I 1))
        (.guard (lt (v I 1) (ln (v (L TR) 2)))
         (.jump 0 [a (v (L TR) 0), a (add (v I 1) (c 1)), a (st (v (L TR) 2) (v I 1) (pr (v (L T4) 644) (pr (v (L I) 645) (v (L (L T4)) 646))))]))))))
    (.ret [a (v (L TR) 2)]))))
def tr_laws_toSystem : Tr := .call f_laws_toVarS [a (v (L V3) 0)] 100320
 (.call f_laws_toRuleS [a (v (L TR) 1)] 100640
  (.ret [a (v (L V3) 100320), a (v (L TR) 100640)]))
def tr_spec_l1In : Tr := .ite (ge (v I 0) (v I 1))
 (.ret [a (le (v I 0) (v I 2))])
 (.ret [a (k false)])
def tr_spec_l1One : Tr := .ret [a (eq (v I 0) (c 7))]
def tr_spec_l1Kind : Tr := .join
 (.ite (eq (v I 0) (c 0))
  (.call f_spec_l1In [a (v I 1), a (c (-9999)), a (c 9999)] 100512
   (.ite (v B 100512)
    (.ite (eq (v I 2) (c 0))
     (.ite (eq (v I 3) (c 0))
      (.ret [a (c 1)])
      (.jump 0 [a (v (L I) 4), a (v I 5), a (v I 0), a (v I 1), a (v I 2), a (v I 3)]))
     (.jump 0 [a (v (L I) 4), a (v I 5), a (v I 0), a (v I 1), a (v I 2), a (v I 3)]))
    (.jump 0 [a (v (L I) 4), a (v I 5), a (v I 0), a (v I 1), a (v I 2), a (v I 3)])))
  (.jump 0 [a (v (L I) 4), a (v I 5), a (v I 0), a (v I 1), a (v I 2), a (v I 3)]))
 (.join
  (.ite (eq (v I 2) (c 1))
   (.call f_spec_l1In [a (v I 3), a (c 0), a (sub (v I 1) (c 1))] 519
    (.ite (v B 519)
     (.ite (eq (v I 4) (c 0))
      (.ite (eq (v I 5) (c 0))
       (.ret [a (c 1)])
       (.jump 0 [a (v (L I) 0), a (v I 2), a (v I 3), a (v I 4), a (v I 5)]))
      (.jump 0 [a (v (L I) 0), a (v I 2), a (v I 3), a (v I 4), a (v I 5)]))
     (.jump 0 [a (v (L I) 0), a (v I 2), a (v I 3), a (v I 4), a (v I 5)])))
   (.jump 0 [a (v (L I) 0), a (v I 2), a (v I 3), a (v I 4), a (v I 5)]))
  (.call f_spec_l1In [a (v I 1), a (c 2), a (c 9)] 134
   (.ite (nt (v B 134))
    (.ret [a (c 0)])
    (.ite (ne (v I 2) (c 0))
     (.ret [a (c 0)])
     (.call f_spec_l1In [a (v I 3), a (c 0), a (sub (ln (v (L I) 0)) (c 1))] 966
      (.ite (nt (v B 966))
       (.ret [a (c 0)])
       (.call f_spec_l1In [a (v I 4), a (c 0), a (sub (ln (v (L I) 0)) (c 1))] 1542
        (.ite (nt (v B 1542))
         (.ret [a (c 0)])
         (.join
          (.ite (ge (v I 1) (c 7))
           (.jump 0 [a (v (L I) 0), a (c 2), a (v I 1), a (v I 2), a (v I 3), a (v I 4)])
           (.jump 0 [a (v (L I) 0), a (c 1), a (v I 1), a (v I 2), a (v I 3), a (v I 4)]))
          (.join
           (.guard (le (c 0) (v I 4))
            (.guard (lt (v I 4) (ln (v (L I) 0)))
             (.ite (ne (ix (v (L I) 0) (v I 4)) (v I 1))
              (.ret [a (c 0)])
              (.guard (le (c 0) (v I 5))
               (.guard (lt (v I 5) (ln (v (L I) 0)))
                (.ite (ne (ix (v (L I) 0) (v I 5)) (v I 1))
                 (.ret [a (c 0)])
                 (.call f_spec_l1One [a (v I 2)] 1223
                  (.ite (v B 1223)
                   (.ite (ne (v I 5) (v I 4))
                    (.ret [a (c 0)])
                    (.jump 0 [a (v I 2), a (v I 3), a (v I 4), a (v I 5)]))
                   (.jump 0 [a (v I 2), a (v I 3), a (v I 4), a (v I 5)])))))))))
           (.ite (ge (v I 0) (c 5))
            (.ret [a (c 2)])
            (.ret [a (c 1)]))))))))))))
def tr_spec_KindsOf : Tr := .call f_spec_l1In [a (v I 1), a (c 0), a (c 5)] 100128
 (.ite (nt (v B 100128))
  (.ret [a (nl I)])
  (.call f_spec_l1In [a (ln (v (L T4) 0)), a (c 1), a (c 40)] 100448
   (.ite (nt (v B 100448))
    (.ret [a (nl I)])
    (.loop [a (v (L T4) 0), a (v I 1), a (c 0), a (nl I)]
     (.ite (lt (v I 2) (ln (v (L T4) 0)))
      (.guard (le (c 0) (v I 2))
       (.guard (lt (v I 2) (ln (v (L T4) 0)))
        (.call f_spec_l1Kind [a (f (ix (v (L T4) 0) (v I 2))), a (f (s (ix (v (L T4) 0) (v I 2)))), a (f (s (s (ix (v (L T4) 0) (v I 2))))), a (s (s (s (ix (v (L T4) 0) (v I 2))))), a (v (L I) 3), a (v I 1)] 645
         (.ite (eq (v I 645) (c 0))
          (.ret [a (nl I)])
          (.guard (le (ln (v (L I) 3)) (c 549755813888))
           (.guard (le (ln (one (v I 645))) (c 549755813888))
            (.jump 0 [a (v (L T4) 0), a (v I 1), a (add (v I 2) (c 1)), a (app (v (L I) 3) (one (v I 645)))])))))))
      (.ret [a (v (L I) 3)]))))))
def tr_spec_l2Is : Tr := .call f_spec_KindsOf [a (v (L T4) 0), a (v I 1)] 100192
 (.ite (gt (ln (v (L I) 100192)) (c 0))
  (.guard (le (c 0) (sub (ln (v (L I) 100192)) (c 1)))
   (.guard (lt (sub (ln (v (L I) 100192)) (c 1)) (ln (v (L I) 100192)))
    (.ret [a (eq (ix (v (L I) 100192) (sub (ln (v (L I) 100192)) (c 1))) (v I 2))])))
  (.ret [a (k false)]))
def tr_spec_l2Var : Tr := .call f_spec_l1In [a (v I 0), a (c (-9999)), a (c 9999)] 100256
 (.ite (v B 100256)
  (.call f_spec_l1In [a (v I 1), a (v I 0), a (c 9999)] 100640
   (.ite (v B 100640)
    (.ite (lt (sub (v I 1) (v I 0)) (c 20))
     (.call f_spec_l1In [a (v I 2), a (v I 0), a (v I 1)] 101728
      (.ret [a (v B 101728)]))
     (.ret [a (k false)]))
    (.ret [a (k false)])))
  (.ret [a (k false)]))
def tr_spec_l2Rule : Tr := .call f_spec_l2Is [a (v (L T4) 0), a (v I 3), a (c 2)] 100320
 (.ite (nt (v B 100320))
  (.ret [a (k false)])
  (.ite (ne (ln (v (L I) 1)) (ln (v (L (L T4)) 2)))
   (.ret [a (k false)])
   (.ite (gt (ln (v (L I) 1)) (v I 3))
    (.ret [a (k false)])
    (.loop [a (v I 3), a (c 0), a (v (L T4) 0), a (v (L I) 1), a (v (L (L T4)) 2)]
     (.ite (lt (v I 1) (ln (v (L I) 3)))
      (.join
       (.guard (le (c 0) (v I 1))
        (.guard (lt (v I 1) (ln (v (L I) 3)))
         (.call f_spec_l1In [a (ix (v (L I) 3) (v I 1)), a (c 0), a (sub (v I 0) (c 1))] 774
          (.ite (nt (v B 774))
           (.ret [a (k false)])
           (.ite (gt (v I 1) (c 0))
            (.guard (le (c 0) (v I 1))
             (.guard (lt (v I 1) (ln (v (L I) 3)))
              (.guard (le (c 0) (sub (v I 1) (c 1)))
               (.guard (lt (sub (v I 1) (c 1)) (ln (v (L I) 3)))
                (.ite (le (ix (v (L I) 3) (v I 1)) (ix (v (L I) 3) (sub (v I 1) (c 1))))
                 (.ret [a (k false)])
                 (.guard (le (c 0) (v I 1))
                  (.guard (lt (v I 1) (ln (v (L (L T4)) 4)))
                   (.call f_spec_l2Is [a (ix (v (L (L T4)) 4) (v I 1)), a (v I 0), a (c 1)] 2502
                    (.ite (nt (v B 2502))
                     (.ret [a (k false)])
                     (.jump 0 [a (v I 0), a (v I 1), a (v (L T4) 2), a (v (L I) 3), a (v (L (L T4)) 4)]))))))))))
            (.guard (le (c 0) (v I 1))
             (.guard (lt (v I 1) (ln (v (L (L T4)) 4)))
              (.call f_spec_l2Is [a (ix (v (L (L T4)) 4) (v I 1)), a (v I 0), a (c 1)] 2502
               (.ite (nt (v B 2502))
                (.ret [a (k false)])
                (.jump 0 [a (v I 0), a (v I 1), a (v (L T4) 2), a (v (L I) 3), a (v (L (L T4)) 4)]))))))))))
       (.jump 0 [a (v I 0), a (add (v I 1) (c 1)), a (v (L T4) 2), a (v (L I) 3), a (v (L (L T4)) 4)]))
      (.ret [a (k true)]))))))
def tr_spec_SystemValid : Tr := .call f_spec_l1In [a (ln (v (L V3) 0)), a (c 1), a (c 5)] 100320
 (.ite (nt (v B 100320))
  (.ret [a (k false)])
  (.ite (gt (ln (v (L TR) 1)) (c 8))
   (.ret [a (k false)])
   (.loop [a (c 1), a (c 0), a (v (L V3) 0), a (v (L TR) 1)]
    (.ite (lt (v I 1) (ln (v (L V3) 2)))
     (.guard (le (c 0) (v I 1))
      (.guard (lt (v I 1) (ln (v (L V3) 2)))
       (.call f_spec_l2Var [a (f (ix (v (L V3) 2) (v I 1))), a (f (s (ix (v (L V3) 2) (v I 1)))), a (s (s (ix (v (L V3) 2) (v I 1))))] 645
        (.ite (nt (v B 645))
         (.ret [a (k false)])
         (.guard (le (c 0) (v I 1))
          (.guard (lt (v I 1) (ln (v (L V3) 2)))
           (.guard (le (c 0) (v I 1))
            (.guard (lt (v I 1) (ln (v (L V3) 2)))
             (.jump 0 [a (mul (v I 0) (add (sub (f (s (ix (v (L V3) 2) (v I 1)))) (f (ix (v (L V3) 2) (v I 1)))) (c 1))), a (add (v I 1) (c 1)), a (v (L V3) 2), a (v (L TR) 3)])))))))))
     (.loop [a (v I 0), a (c 0), a (v (L V3) 2), a (v (L TR) 3)]
      (.ite (lt (v I 1) (ln (v (L TR) 3)))
       (.guard (le (c 0) (v I 1))
        (.guard (lt (v I 1) (ln (v (L TR) 3)))
         (.call f_spec_l2Rule [a (f (ix (v (L TR) 3) (v I 1))), a (f (s (ix (v (L TR) 3) (v I 1)))), a (s (s (ix (v (L TR) 3) (v I 1)))), a (ln (v (L V3) 2))] 837
          (.ite (nt (v B 837))
           (.ret [a (k false)])
           (.jump 0 [a (v I 0), a (add (v I 1) (c 1)), a (v (L V3) 2), a (v (L TR) 3)])))))
       (.ret [a (le (v I 0) (c 400))])))))))
def tr_spec_FirstState : Tr := .join
 (.loop [a (c 0), a (v (L V3) 0), a (v (L TR) 1), a (nl I)]
  (.ite (lt (v I 0) (ln (v (L V3) 1)))
   (.call f_spec_SystemValid [a (v (L V3) 1), a (v (L TR) 2)] 454
    (.ite (v B 454)
     (.guard (le (c 0) (v I 0))
      (.guard (lt (v I 0) (ln (v (L V3) 1)))
       (.guard (le (ln (v (L I) 3)) (c 549755813888))
        (.guard (le (ln (one (s (s (ix (v (L V3) 1) (v I 0)))))) (c 549755813888))
         (.jump 0 [a (add (v I 0) (c 1)), a (v (L V3) 1), a (v (L TR) 2), a (app (v (L I) 3) (one (s (s (ix (v (L V3) 1) (v I 0))))))])))))
     (.jump 1 [a (v (L I) 3)])))
   (.jump 1 [a (v (L I) 3)])))
 (.ret [a (v (L I) 0)])
def tr_spec_l2Same : Tr := .ite (ne (ln (v (L I) 0)) (ln (v (L I) 1)))
 (.ret [a (k false)])
 (.loop [a (v (L I) 0), a (v (L I) 1), a (c 0)]
  (.ite (lt (v I 2) (ln (v (L I) 0)))
   (.guard (le (c 0) (v I 2))
    (.guard (lt (v I 2) (ln (v (L I) 0)))
     (.guard (le (c 0) (v I 2))
      (.guard (lt (v I 2) (ln (v (L I) 1)))
       (.ite (ne (ix (v (L I) 0) (v I 2)) (ix (v (L I) 1) (v I 2)))
        (.ret [a (k false)])
        (.jump 0 [a (v (L I) 0), a (v (L I) 1), a (add (v I 2) (c 1))]))))))
   (.ret [a (k true)])))
def tr_spec_l2In : Tr := .ite (ne (ln (v (L I) 2)) (ln (v (L V3) 0)))
 (.ret [a (k false)])
 (.loop [a (v (L I) 2), a (c 0), a (v (L V3) 0), a (v (L TR) 1)]
  (.ite (lt (v I 1) (ln (v (L I) 0)))
   (.guard (le (c 0) (v I 1))
    (.guard (lt (v I 1) (ln (v (L I) 0)))
     (.guard (le (c 0) (v I 1))
      (.guard (lt (v I 1) (ln (v (L V3) 2)))
       (.guard (le (c 0) (v I 1))
        (.guard (lt (v I 1) (ln (v (L V3) 2)))
         (.call f_spec_l1In [a (ix (v (L I) 0) (v I 1)), a (f (ix (v (L V3) 2) (v I 1))), a (f (s (ix (v (L V3) 2) (v I 1))))] 1285
          (.ite (nt (v B 1285))
           (.ret [a (k false)])
           (.jump 0 [a (v (L I) 0), a (add (v I 1) (c 1)), a (v (L V3) 2), a (v (L TR) 3)])))))))))
   (.ret [a (k true)])))
def tr_spec_l1Held : Tr := .ite (gt (v I 0) (c 9999))
 (.ret [a (c 9999)])
 (.ite (lt (v I 0) (c (-9999)))
  (.ret [a (c (-9999))])
  (.ret [a (v I 0)]))
def tr_spec_l1Truth : Tr := .ite (v B 0)
 (.ret [a (c 1)])
 (.ret [a (c 0)])
def tr_spec_l1Do : Tr := .ite (eq (v I 0) (c 2))
 (.call f_spec_l1Held [a (add (v I 1) (v I 2))] 100384
  (.ret [a (v I 100384)]))
 (.ite (eq (v I 0) (c 3))
  (.call f_spec_l1Held [a (sub (v I 1) (v I 2))] 100512
   (.ret [a (v I 100512)]))
  (.ite (eq (v I 0) (c 4))
   (.call f_spec_l1Held [a (mul (v I 1) (v I 2))] 100640
    (.ret [a (v I 100640)]))
   (.ite (eq (v I 0) (c 5))
    (.call f_spec_l1Truth [a (lt (v I 1) (v I 2))] 100768
     (.ret [a (v I 100768)]))
    (.ite (eq (v I 0) (c 6))
     (.call f_spec_l1Truth [a (eq (v I 1) (v I 2))] 100896
      (.ret [a (v I 100896)]))
     (.ite (eq (v I 0) (c 7))
      (.ret [a (sub (c 1) (v I 1))])
      (.ite (eq (v I 0) (c 8))
       (.ret [a (mul (v I 1) (v I 2))])
       (.call f_spec_l1Truth [a (gt (add (v I 1) (v I 2)) (c 0))] 101216
        (.ret [a (v I 101216)]))))))))
end Go.Proofs.YthapopegchnhlaaGreat
namespace Go.Proofs.YthapopegchnhlaaGreat
open Go Go.Sm Go.Sm.Q
def tr_spec_l1Values : Tr := .loop [a (v (L T4) 0), a (v (L I) 1), a (c 0), a (nl I)]
 (.ite (lt (v I 2) (ln (v (L T4) 0)))
  (.join
   (.guard (le (c 0) (v I 2))
    (.guard (lt (v I 2) (ln (v (L T4) 0)))
     (.ite (eq (f (ix (v (L T4) 0) (v I 2))) (c 0))
      (.guard (le (ln (v (L I) 3)) (c 549755813888))
       (.guard (le (ln (one (f (s (ix (v (L T4) 0) (v I 2)))))) (c 549755813888))
        (.jump 0 [a (v (L T4) 0), a (v (L I) 1), a (v I 2), a (app (v (L I) 3) (one (f (s (ix (v (L T4) 0) (v I 2))))))])))
      (.ite (eq (f (ix (v (L T4) 0) (v I 2))) (c 1))
       (.guard (le (c 0) (f (s (ix (v (L T4) 0) (v I 2)))))
        (.guard (lt (f (s (ix (v (L T4) 0) (v I 2)))) (ln (v (L I) 1)))
         (.guard (le (ln (v (L I) 3)) (c 549755813888))
          (.guard (le (ln (one (ix (v (L I) 1) (f (s (ix (v (L T4) 0) (v I 2))))))) (c 549755813888))
           (.jump 0 [a (v (L T4) 0), a (v (L I) 1), a (v I 2), a (app (v (L I) 3) (one (ix (v (L I) 1) (f (s (ix (v (L T4) 0) (v I 2)))))))])))))
       (.guard (le (c 0) (f (s (s (ix (v (L T4) 0) (v I 2))))))
        (.guard (lt (f (s (s (ix (v (L T4) 0) (v I 2))))) (ln (v (L I) 3)))
         (.guard (le (c 0) (s (s (s (ix (v (L T4) 0) (v I 2))))))
          (.guard (lt (s (s (s (ix (v (L T4) 0) (v I 2))))) (ln (v (L I) 3)))
           (.call f_spec_l1Do [a (f (ix (v (L T4) 0) (v I 2))), a (ix (v (L I) 3) (f (s (s (ix (v (L T4) 0) (v I 2)))))), a (ix (v (L I) 3) (s (s (s (ix (v (L T4) 0) (v I 2))))))] 1861
            (.guard (le (ln (v (L I) 3)) (c 549755813888))
             (.guard (le (ln (one (v I 1861))) (c 549755813888))
              (.jump 0 [a (v (L T4) 0), a (v (L I) 1), a (v I 2), a (app (v (L I) 3) (one (v I 1861)))]))))))))))))
   (.jump 0 [a (v (L T4) 0), a (v (L I) 1), a (add (v I 2) (c 1)), a (v (L I) 3)]))
  (.ret [a (v (L I) 3)]))
def tr_spec_l2Last : Tr := .call f_spec_l1Values [a (v (L T4) 0), a (v (L I) 1)] 100192
 (.guard (le (c 0) (sub (ln (v (L T4) 0)) (c 1)))
  (.guard (lt (sub (ln (v (L T4) 0)) (c 1)) (ln (v (L I) 100192)))
   (.ret [a (ix (v (L I) 100192) (sub (ln (v (L T4) 0)) (c 1)))])))
def tr_spec_l2Use : Tr := .guard (le (c 0) (v I 3))
 (.guard (lt (v I 3) (ln (v (L TR) 1)))
  (.call f_spec_l2Last [a (f (ix (v (L TR) 1) (v I 3))), a (v (L I) 2)] 100768
   (.ite (eq (v I 100768) (c 0))
    (.ret [a (nl I)])
    (.loop [a (v (L I) 2), a (c 0), a (v (L V3) 0), a (v (L TR) 1), a (f (ix (v (L TR) 1) (v I 3))), a (f (s (ix (v (L TR) 1) (v I 3)))), a (s (s (ix (v (L TR) 1) (v I 3)))), a (nl I)]
     (.ite (lt (v I 1) (ln (v (L I) 0)))
      (.guard (le (c 0) (v I 1))
       (.guard (lt (v I 1) (ln (v (L I) 0)))
        (.guard (le (ln (v (L I) 7)) (c 549755813888))
         (.guard (le (ln (one (ix (v (L I) 0) (v I 1)))) (c 549755813888))
          (.jump 0 [a (v (L I) 0), a (add (v I 1) (c 1)), a (v (L V3) 2), a (v (L TR) 3), a (v (L T4) 4), a (v (L I) 5), a (v (L (L T4)) 6), a (app (v (L I) 7) (one (ix (v (L I) 0) (v I 1))))])))))
      (.loop [a (v (L I) 0), a (c 0), a (v (L V3) 2), a (v (L TR) 3), a (v (L T4) 4), a (v (L I) 5), a (v (L (L T4)) 6), a (v (L I) 7)]
       (.ite (lt (v I 1) (ln (v (L I) 5)))
        (.guard (le (c 0) (v I 1))
         (.guard (lt (v I 1) (ln (v (L I) 5)))
          (.guard (le (c 0) (v I 1))
           (.guard (lt (v I 1) (ln (v (L (L T4)) 6)))
            (.call f_spec_l2Last [a (ix (v (L (L T4)) 6) (v I 1)), a (v (L I) 0)] 1099
             (.guard (le (c 0) (ix (v (L I) 5) (v I 1)))
              (.guard (lt (ix (v (L I) 5) (v I 1)) (ln (v (L I) 7)))
               (.jump 0 [a (v (L I) 0), a (add (v I 1) (c 1)), a (v (L V3) 2), a (v (L TR) 3), a (v (L T4) 4), a (v (L I) 5), a (v (L (L T4)) 6), a (st (v (L I) 7) (ix (v (L I) 5) (v I 1)) (v I 1099))]))))))))
        (.call f_spec_l2In [a (v (L V3) 2), a (v (L TR) 3), a (v (L I) 7)] 459
         (.ite (nt (v B 459))
          (.ret [a (nl I)])
          (.ret [a (v (L I) 7)]))))))))))
def tr_spec_l2Less : Tr := .join
 (.loop [a (v (L I) 0), a (v (L I) 1), a (c 0)]
  (.ite (lt (v I 2) (ln (v (L I) 0)))
   (.ite (lt (v I 2) (ln (v (L I) 1)))
    (.guard (le (c 0) (v I 2))
     (.guard (lt (v I 2) (ln (v (L I) 0)))
      (.guard (le (c 0) (v I 2))
       (.guard (lt (v I 2) (ln (v (L I) 1)))
        (.ite (ne (ix (v (L I) 0) (v I 2)) (ix (v (L I) 1) (v I 2)))
         (.guard (le (c 0) (v I 2))
          (.guard (lt (v I 2) (ln (v (L I) 0)))
           (.guard (le (c 0) (v I 2))
            (.guard (lt (v I 2) (ln (v (L I) 1)))
             (.ret [a (lt (ix (v (L I) 0) (v I 2)) (ix (v (L I) 1) (v I 2)))])))))
         (.jump 0 [a (v (L I) 0), a (v (L I) 1), a (add (v I 2) (c 1))]))))))
    (.jump 1 [a (v (L I) 0), a (v (L I) 1)]))
   (.jump 1 [a (v (L I) 0), a (v (L I) 1)])))
 (.ret [a (lt (ln (v (L I) 0)) (ln (v (L I) 1)))])
def tr_spec_l2Put : Tr := .loop [a (v (L (L I)) 0), a (v (L I) 1), a (k false), a (c 0), a (nl (L I))]
 (.ite (lt (v I 3) (ln (v (L (L I)) 0)))
  (.join
   (.ite (nt (v B 2))
    (.guard (le (c 0) (v I 3))
     (.guard (lt (v I 3) (ln (v (L (L I)) 0)))
      (.call f_spec_l2Same [a (ix (v (L (L I)) 0) (v I 3)), a (v (L I) 1)] 774
       (.ite (v B 774)
        (.jump 0 [a (v (L (L I)) 0), a (v (L I) 1), a (k true), a (v I 3), a (v (L (L I)) 4)])
        (.jump 0 [a (v (L (L I)) 0), a (v (L I) 1), a (v B 2), a (v I 3), a (v (L (L I)) 4)])))))
    (.jump 0 [a (v (L (L I)) 0), a (v (L I) 1), a (v B 2), a (v I 3), a (v (L (L I)) 4)]))
   (.join
    (.ite (nt (v B 2))
     (.guard (le (c 0) (v I 3))
      (.guard (lt (v I 3) (ln (v (L (L I)) 0)))
       (.call f_spec_l2Less [a (v (L I) 1), a (ix (v (L (L I)) 0) (v I 3))] 518
        (.ite (v B 518)
         (.guard (le (ln (v (L (L I)) 4)) (c 549755813888))
          (.guard (le (ln (one (v (L I) 1))) (c 549755813888))
           (.jump 0 [a (v (L (L I)) 0), a (v (L I) 1), a (k true), a (v I 3), a (app (v (L (L I)) 4) (one (v (L I) 1)))])))
         (.jump 0 [a (v (L (L I)) 0), a (v (L I) 1), a (v B 2), a (v I 3), a (v (L (L I)) 4)])))))
     (.jump 0 [a (v (L (L I)) 0), a (v (L I) 1), a (v B 2), a (v I 3), a (v (L (L I)) 4)]))
    (.guard (le (c 0) (v I 3))
     (.guard (lt (v I 3) (ln (v (L (L I)) 0)))
      (.guard (le (ln (v (L (L I)) 4)) (c 549755813888))
       (.guard (le (ln (one (ix (v (L (L I)) 0) (v I 3)))) (c 549755813888))
        (.jump 0 [a (v (L (L I)) 0), a (v (L I) 1), a (v B 2), a (add (v I 3) (c 1)), a (app (v (L (L I)) 4) (one (ix (v (L (L I)) 0) (v I 3))))])))))))
  (.join
   (.ite (nt (v B 2))
    (.guard (le (ln (v (L (L I)) 4)) (c 549755813888))
     (.guard (le (ln (one (v (L I) 1))) (c 549755813888))
      (.jump 0 [a (app (v (L (L I)) 4) (one (v (L I) 1)))])))
    (.jump 0 [a (v (L (L I)) 4)]))
   (.ret [a (v (L (L I)) 0)])))
def tr_spec_l2Next : Tr := .loop [a (v (L I) 2), a (c 0), a (v (L V3) 0), a (v (L TR) 1), a (nl (L I))]
 (.ite (lt (v I 1) (ln (v (L TR) 3)))
  (.join
   (.call f_spec_l2Use [a (v (L V3) 2), a (v (L TR) 3), a (v (L I) 0), a (v I 1)] 519
    (.ite (gt (ln (v (L I) 519)) (c 0))
     (.call f_spec_l2Put [a (v (L (L I)) 4), a (v (L I) 519)] 967
      (.jump 0 [a (v (L I) 0), a (v I 1), a (v (L V3) 2), a (v (L TR) 3), a (v (L (L I)) 967)]))
     (.jump 0 [a (v (L I) 0), a (v I 1), a (v (L V3) 2), a (v (L TR) 3), a (v (L (L I)) 4)])))
   (.jump 0 [a (v (L I) 0), a (add (v I 1) (c 1)), a (v (L V3) 2), a (v (L TR) 3), a (v (L (L I)) 4)]))
  (.ret [a (v (L (L I)) 4)]))
def tr_impl_in : Tr := .ite (ge (v I 0) (v I 1))
 (.ret [a (le (v I 0) (v I 2))])
 (.ret [a (k false)])
def tr_impl_varOk : Tr := .call f_impl_in [a (v I 0), a (c (-9999)), a (c 9999)] 100256
 (.ite (v B 100256)
  (.call f_impl_in [a (v I 1), a (v I 0), a (c 9999)] 100640
   (.ite (v B 100640)
    (.ite (lt (sub (v I 1) (v I 0)) (c 20))
     (.call f_impl_in [a (v I 2), a (v I 0), a (v I 1)] 101728
      (.ret [a (v B 101728)]))
     (.ret [a (k false)]))
    (.ret [a (k false)])))
  (.ret [a (k false)]))
def tr_impl_size : Tr := .loop [a (c 1), a (v (L V3) 0), a (ln (v (L V3) 0)), a (c 0)]
 (.ite (lt (v I 3) (v I 2))
  (.guard (le (c 0) (v I 3))
   (.guard (lt (v I 3) (ln (v (L V3) 1)))
    (.jump 0 [a (mul (v I 0) (add (sub (f (s (ix (v (L V3) 1) (v I 3)))) (f (ix (v (L V3) 1) (v I 3)))) (c 1))), a (v (L V3) 1), a (v I 2), a (add (v I 3) (c 1))])))
  (.ret [a (v I 0)]))
def tr_impl_parts : Tr := .ite (eq (v I 0) (c 2))
 (.ret [a (c 2), a (c 1), a (c 1)])
 (.ite (eq (v I 0) (c 3))
  (.ret [a (c 2), a (c 1), a (c 1)])
  (.ite (eq (v I 0) (c 4))
   (.ret [a (c 2), a (c 1), a (c 1)])
   (.ite (eq (v I 0) (c 5))
    (.ret [a (c 2), a (c 1), a (c 2)])
    (.ite (eq (v I 0) (c 6))
     (.ret [a (c 2), a (c 1), a (c 2)])
     (.ite (eq (v I 0) (c 7))
      (.ret [a (c 1), a (c 2), a (c 2)])
      (.ite (eq (v I 0) (c 8))
       (.ret [a (c 2), a (c 2), a (c 2)])
       (.ite (eq (v I 0) (c 9))
        (.ret [a (c 2), a (c 2), a (c 2)])
        (.ret [a (c 0), a (c 0), a (c 1)]))))))))
def tr_impl_kindsOf : Tr := .call f_impl_in [a (v I 1), a (c 0), a (c 5)] 100128
 (.ite (nt (v B 100128))
  (.ret [a (.nil true I)])
  (.call f_impl_in [a (ln (v (L T4) 0)), a (c 1), a (c 40)] 100448
   (.ite (nt (v B 100448))
    (.ret [a (.nil true I)])
    (.guard (le (c 0) (ln (v (L T4) 0)))
     (.guard (le (ln (v (L T4) 0)) (c 549755813888))
      (.loop [a (v I 1), a (v (L T4) 0), a (ln (v (L T4) 0)), a (c 0), a (rep (c 0) (z I))]
       (.ite (lt (v I 3) (v I 2))
        (.guard (le (c 0) (v I 3))
         (.guard (lt (v I 3) (ln (v (L T4) 1)))
          (.call f_impl_parts [a (f (ix (v (L T4) 1) (v I 3)))] 582
           (.call f_impl_in [a (f (ix (v (L T4) 1) (v I 3))), a (c 0), a (c 9)] 1222
            (.join
             (.ite (eq (f (ix (v (L T4) 1) (v I 3))) (c 0))
              (.call f_impl_in [a (f (s (ix (v (L T4) 1) (v I 3)))), a (c (-9999)), a (c 9999)] 1734
               (.ite (v B 1734)
                (.ite (eq (f (s (s (ix (v (L T4) 1) (v I 3))))) (c 0))
                 (.jump 0 [a (v I 0), a (v I 584), a (eq (s (s (s (ix (v (L T4) 1) (v I 3))))) (c 0)), a (v (L T4) 1), a (v I 2), a (v I 3), a (v (L I) 4)])
                 (.jump 0 [a (v I 0), a (v I 584), a (k false), a (v (L T4) 1), a (v I 2), a (v I 3), a (v (L I) 4)]))
                (.jump 0 [a (v I 0), a (v I 584), a (k false), a (v (L T4) 1), a (v I 2), a (v I 3), a (v (L I) 4)])))
              (.ite (eq (f (ix (v (L T4) 1) (v I 3))) (c 1))
               (.call f_impl_in [a (f (s (ix (v (L T4) 1) (v I 3)))), a (c 0), a (sub (v I 0) (c 1))] 2118
                (.ite (v B 2118)
                 (.ite (eq (f (s (s (ix (v (L T4) 1) (v I 3))))) (c 0))
                  (.jump 0 [a (v I 0), a (v I 584), a (eq (s (s (s (ix (v (L T4) 1) (v I 3))))) (c 0)), a (v (L T4) 1), a (v I 2), a (v I 3), a (v (L I) 4)])
                  (.jump 0 [a (v I 0), a (v I 584), a (k false), a (v (L T4) 1), a (v I 2), a (v I 3), a (v (L I) 4)]))
                 (.jump 0 [a (v I 0), a (v I 584), a (k false), a (v (L T4) 1), a (v I 2), a (v I 3), a (v (L I) 4)])))
               (.ite (v B 1222)
                (.ite (eq (f (s (ix (v (L T4) 1) (v I 3)))) (c 0))
                 (.call f_impl_in [a (f (s (s (ix (v (L T4) 1) (v I 3))))), a (c 0), a (sub (v I 3) (c 1))] 2502
                  (.ite (v B 2502)
                   (.call f_impl_in [a (s (s (s (ix (v (L T4) 1) (v I 3))))), a (c 0), a (sub (v I 3) (c 1))] 2950
                    (.ite (v B 2950)
                     (.guard (le (c 0) (f (s (s (ix (v (L T4) 1) (v I 3))))))
                      (.guard (lt (f (s (s (ix (v (L T4) 1) (v I 3))))) (ln (v (L I) 4)))
                       (.ite (eq (ix (v (L I) 4) (f (s (s (ix (v (L T4) 1) (v I 3)))))) (v I 583))
                        (.guard (le (c 0) (s (s (s (ix (v (L T4) 1) (v I 3))))))
                         (.guard (lt (s (s (s (ix (v (L T4) 1) (v I 3))))) (ln (v (L I) 4)))
                          (.ite (eq (ix (v (L I) 4) (s (s (s (ix (v (L T4) 1) (v I 3)))))) (v I 583))
                           (.ite (eq (v I 582) (c 2))
                            (.jump 0 [a (v I 0), a (v I 584), a (k true), a (v (L T4) 1), a (v I 2), a (v I 3), a (v (L I) 4)])
                            (.jump 0 [a (v I 0), a (v I 584), a (eq (f (s (s (ix (v (L T4) 1) (v I 3))))) (s (s (s (ix (v (L T4) 1) (v I 3)))))), a (v (L T4) 1), a (v I 2), a (v I 3), a (v (L I) 4)]))
                           (.jump 0 [a (v I 0), a (v I 584), a (k false), a (v (L T4) 1), a (v I 2), a (v I 3), a (v (L I) 4)]))))
                        (.jump 0 [a (v I 0), a (v I 584), a (k false), a (v (L T4) 1), a (v I 2), a (v I 3), a (v (L I) 4)]))))
                     (.jump 0 [a (v I 0), a (v I 584), a (k false), a (v (L T4) 1), a (v I 2), a (v I 3), a (v (L I) 4)])))
                   (.jump 0 [a (v I 0), a (v I 584), a (k false), a (v (L T4) 1), a (v I 2), a (v I 3), a (v (L I) 4)])))
                 (.jump 0 [a (v I 0), a (v I 584), a (k false), a (v (L T4) 1), a (v I 2), a (v I 3), a (v (L I) 4)]))
                (.jump 0 [a (v I 0), a (v I 584), a (k false), a (v (L T4) 1), a (v I 2), a (v I 3), a (v (L I) 4)]))))
             (.ite (nt (v B 2))
              (.ret [a (.nil true I)])
              (.guard (le (ln (v (L I) 6)) (c 549755813888))
               (.guard (le (ln (one (v I 1))) (c 549755813888))
                (.jump 0 [a (v I 0), a (v (L T4) 3), a (v I 4), a (add (v I 5) (c 1)), a (app (v (L I) 6) (one (v I 1)))])))))))))
        (.guard (nt (emp (v (L I) 4)))
         (.ret [a (re true (v (L I) 4))])))))))))
def tr_impl_kindOf : Tr := .call f_impl_kindsOf [a (v (L T4) 0), a (v I 1)] 100192
 (.ite (emp (v (N I) 100192))
  (.ret [a (c 0)])
  (.guard (le (c 0) (sub (lm (v (N I) 100192)) (c 1)))
   (.guard (lt (sub (lm (v (N I) 100192)) (c 1)) (lm (v (N I) 100192)))
    (.ret [a (im (v (N I) 100192) (sub (lm (v (N I) 100192)) (c 1)))]))))
def tr_impl_ruleOk : Tr := .call f_impl_kindOf [a (v (L T4) 0), a (v I 3)] 100320
 (.ite (ne (v I 100320) (c 2))
  (.ret [a (k false)])
  (.ite (ne (ln (v (L I) 1)) (ln (v (L (L T4)) 2)))
   (.ret [a (k false)])
   (.loop [a (v I 3), a (v (L I) 1), a (ln (v (L I) 1)), a (c 0), a (v (L T4) 0), a (v (L I) 1), a (v (L (L T4)) 2)]
    (.ite (lt (v I 3) (v I 2))
     (.join
      (.guard (le (c 0) (v I 3))
       (.guard (lt (v I 3) (ln (v (L I) 1)))
        (.call f_impl_in [a (ix (v (L I) 1) (v I 3)), a (c 0), a (sub (v I 0) (c 1))] 584
         (.ite (nt (v B 584))
          (.ret [a (k false)])
          (.ite (gt (v I 3) (c 0))
           (.guard (le (c 0) (sub (v I 3) (c 1)))
            (.guard (lt (sub (v I 3) (c 1)) (ln (v (L I) 5)))
             (.ite (ge (ix (v (L I) 5) (sub (v I 3) (c 1))) (ix (v (L I) 1) (v I 3)))
              (.ret [a (k false)])
              (.guard (le (c 0) (v I 3))
               (.guard (lt (v I 3) (ln (v (L (L T4)) 6)))
                (.call f_impl_kindOf [a (ix (v (L (L T4)) 6) (v I 3)), a (v I 0)] 2056
                 (.ite (ne (v I 2056) (c 1))
                  (.ret [a (k false)])
                  (.jump 0 [a (v I 0), a (v (L I) 1), a (v I 2), a (v I 3), a (v (L T4) 4), a (v (L I) 5), a (v (L (L T4)) 6)]))))))))
           (.guard (le (c 0) (v I 3))
            (.guard (lt (v I 3) (ln (v (L (L T4)) 6)))
             (.call f_impl_kindOf [a (ix (v (L (L T4)) 6) (v I 3)), a (v I 0)] 2056
              (.ite (ne (v I 2056) (c 1))
               (.ret [a (k false)])
               (.jump 0 [a (v I 0), a (v (L I) 1), a (v I 2), a (v I 3), a (v (L T4) 4), a (v (L I) 5), a (v (L (L T4)) 6)]))))))))))
      (.jump 0 [a (v I 0), a (v (L I) 1), a (v I 2), a (add (v I 3) (c 1)), a (v (L T4) 4), a (v (L I) 5), a (v (L (L T4)) 6)]))
     (.ret [a (k true)])))))
def tr_impl_SystemValid : Tr := .join
 (.call f_impl_in [a (ln (v (L V3) 0)), a (c 1), a (c 5)] 100320
  (.ite (nt (v B 100320))
   (.ret [a (k false)])
   (.ite (gt (ln (v (L TR) 1)) (c 8))
    (.ret [a (k false)])
    (.loop [a (v (L V3) 0), a (ln (v (L V3) 0)), a (c 0), a (v (L V3) 0), a (v (L TR) 1)]
     (.ite (lt (v I 2) (v I 1))
      (.guard (le (c 0) (v I 2))
       (.guard (lt (v I 2) (ln (v (L V3) 0)))
        (.call f_impl_varOk [a (f (ix (v (L V3) 0) (v I 2))), a (f (s (ix (v (L V3) 0) (v I 2)))), a (s (s (ix (v (L V3) 0) (v I 2))))] 774
         (.ite (nt (v B 774))
          (.ite (ge (v I 2) (c 0))
           (.ret [a (k false)])
           (.call f_impl_size [a (v (L V3) 3)] 3014
            (.ite (gt (v I 3014) (c 400))
             (.ret [a (k false)])
             (.jump 1 [a (v (L V3) 3), a (v (L TR) 4)]))))
          (.jump 0 [a (v (L V3) 0), a (v I 1), a (add (v I 2) (c 1)), a (v (L V3) 3), a (v (L TR) 4)])))))
      (.call f_impl_size [a (v (L V3) 3)] 1670
       (.ite (gt (v I 1670) (c 400))
        (.ret [a (k false)])
        (.jump 1 [a (v (L V3) 3), a (v (L TR) 4)]))))))))
 (.loop [a (v (L TR) 1), a (ln (v (L TR) 1)), a (c 0), a (v (L V3) 0), a (v (L TR) 1)]
  (.ite (lt (v I 2) (v I 1))
   (.guard (le (c 0) (v I 2))
    (.guard (lt (v I 2) (ln (v (L TR) 0)))
     (.call f_impl_ruleOk [a (f (ix (v (L TR) 0) (v I 2))), a (f (s (ix (v (L TR) 0) (v I 2)))), a (s (s (ix (v (L TR) 0) (v I 2)))), a (ln (v (L V3) 3))] 966
      (.ite (nt (v B 966))
       (.ret [a (nt (ge (v I 2) (c 0)))])
       (.jump 0 [a (v (L TR) 0), a (v I 1), a (add (v I 2) (c 1)), a (v (L V3) 3), a (v (L TR) 4)])))))
   (.ret [a (nt (ge (c (-1)) (c 0)))])))
def tr_impl_inRange : Tr := .ite (ne (ln (v (L I) 2)) (ln (v (L V3) 0)))
 (.ret [a (k false)])
 (.loop [a (v (L I) 2), a (v (L V3) 0), a (ln (v (L V3) 0)), a (c 0)]
  (.ite (lt (v I 3) (v I 2))
   (.guard (le (c 0) (v I 3))
    (.guard (lt (v I 3) (ln (v (L V3) 1)))
     (.guard (le (c 0) (v I 3))
      (.guard (lt (v I 3) (ln (v (L I) 0)))
       (.call f_impl_in [a (ix (v (L I) 0) (v I 3)), a (f (ix (v (L V3) 1) (v I 3))), a (f (s (ix (v (L V3) 1) (v I 3))))] 964
        (.ite (nt (v B 964))
         (.ret [a (k false)])
         (.jump 0 [a (v (L I) 0), a (v (L V3) 1), a (v I 2), a (add (v I 3) (c 1))])))))))
   (.ret [a (k true)])))
def tr_impl_clone_int : Tr := .ite (eq (ln (v (L I) 0)) (c 0))
 (.ret [a (nl I)])
 (.guard (le (c 0) (ln (v (L I) 0)))
  (.guard (le (ln (v (L I) 0)) (c 549755813888))
   (.ret [a (over (rep (ln (v (L I) 0)) (z I)) (v (L I) 0))])))
def tr_impl_held : Tr := .ret [a (.o2 (.mx .i64) (c (-9999)) (.o2 (.mn .i64) (c 9999) (v I 0)))]
def tr_impl_bit : Tr := .ite (v B 0)
 (.ret [a (c 1)])
 (.ret [a (c 0)])
def tr_impl_do : Tr := .ite (eq (v I 0) (c 2))
 (.call f_impl_held [a (add (v I 1) (v I 2))] 100448
  (.ret [a (v I 100448)]))
 (.ite (eq (v I 0) (c 3))
  (.call f_impl_held [a (sub (v I 1) (v I 2))] 100576
   (.ret [a (v I 100576)]))
  (.ite (eq (v I 0) (c 4))
   (.call f_impl_held [a (mul (v I 1) (v I 2))] 100704
    (.ret [a (v I 100704)]))
   (.ite (eq (v I 0) (c 5))
    (.call f_impl_bit [a (lt (v I 1) (v I 2))] 100832
     (.ret [a (v I 100832)]))
    (.ite (eq (v I 0) (c 6))
     (.call f_impl_bit [a (eq (v I 1) (v I 2))] 100960
      (.ret [a (v I 100960)]))
     (.ite (eq (v I 0) (c 7))
      (.ret [a (sub (c 1) (v I 1))])
      (.ite (eq (v I 0) (c 8))
       (.ret [a (.o2 (.mn .i64) (v I 1) (v I 2))])
       (.ret [a (.o2 (.mx .i64) (v I 1) (v I 2))])))))))
def tr_impl_eval : Tr := .guard (le (c 0) (ln (v (L T4) 0)))
 (.guard (le (ln (v (L T4) 0)) (c 549755813888))
  (.loop [a (v (L I) 1), a (v (L T4) 0), a (ln (v (L T4) 0)), a (c 0), a (rep (ln (v (L T4) 0)) (z I))]
   (.ite (lt (v I 3) (v I 2))
    (.join
     (.guard (le (c 0) (v I 3))
      (.guard (lt (v I 3) (ln (v (L T4) 1)))
       (.ite (eq (f (ix (v (L T4) 1) (v I 3))) (c 0))
        (.guard (le (c 0) (v I 3))
         (.guard (lt (v I 3) (ln (v (L I) 4)))
          (.jump 0 [a (v (L I) 0), a (v (L T4) 1), a (v I 2), a (v I 3), a (st (v (L I) 4) (v I 3) (f (s (ix (v (L T4) 1) (v I 3)))))])))
        (.ite (eq (f (ix (v (L T4) 1) (v I 3))) (c 1))
         (.guard (le (c 0) (f (s (ix (v (L T4) 1) (v I 3)))))
          (.guard (lt (f (s (ix (v (L T4) 1) (v I 3)))) (ln (v (L I) 0)))
           (.guard (le (c 0) (v I 3))
            (.guard (lt (v I 3) (ln (v (L I) 4)))
             (.jump 0 [a (v (L I) 0), a (v (L T4) 1), a (v I 2), a (v I 3), a (st (v (L I) 4) (v I 3) (ix (v (L I) 0) (f (s (ix (v (L T4) 1) (v I 3))))))])))))
         (.guard (le (c 0) (f (s (s (ix (v (L T4) 1) (v I 3))))))
          (.guard (lt (f (s (s (ix (v (L T4) 1) (v I 3))))) (ln (v (L I) 4)))
           (.guard (le (c 0) (s (s (s (ix (v (L T4) 1) (v I 3))))))
            (.guard (lt (s (s (s (ix (v (L T4) 1) (v I 3))))) (ln (v (L I) 4)))
             (.call f_impl_do [a (f (ix (v (L T4) 1) (v I 3))), a (ix (v (L I) 4) (f (s (s (ix (v (L T4) 1) (v I 3)))))), a (ix (v (L I) 4) (s (s (s (ix (v (L T4) 1) (v I 3))))))] 1734
              (.guard (le (c 0) (v I 3))
               (.guard (lt (v I 3) (ln (v (L I) 4)))
                (.jump 0 [a (v (L I) 0), a (v (L T4) 1), a (v I 2), a (v I 3), a (st (v (L I) 4) (v I 3) (v I 1734))]))))))))))))
     (.jump 0 [a (v (L I) 0), a (v (L T4) 1), a (v I 2), a (add (v I 3) (c 1)), a (v (L I) 4)]))
    (.guard (le (c 0) (sub (ln (v (L I) 4)) (c 1)))
     (.guard (lt (sub (ln (v (L I) 4)) (c 1)) (ln (v (L I) 4)))
      (.ret [a (ix (v (L I) 4) (sub (ln (v (L I) 4)) (c 1)))]))))))
def tr_impl_use : Tr := .guard (le (c 0) (v I 3))
 (.guard (lt (v I 3) (ln (v (L TR) 1)))
  (.call f_impl_eval [a (f (ix (v (L TR) 1) (v I 3))), a (v (L I) 2)] 100832
   (.ite (eq (v I 100832) (c 0))
    (.ret [a (nl I), a (k false)])
    (.call f_impl_clone_int [a (v (L I) 2)] 101024
     (.loop [a (v (L I) 2), a (f (s (ix (v (L TR) 1) (v I 3)))), a (ln (f (s (ix (v (L TR) 1) (v I 3))))), a (c 0), a (v (L V3) 0), a (v (L TR) 1), a (f (ix (v (L TR) 1) (v I 3))), a (f (s (ix (v (L TR) 1) (v I 3)))), a (s (s (ix (v (L TR) 1) (v I 3)))), a (v (L I) 101024)]
      (.ite (lt (v I 3) (v I 2))
       (.guard (le (c 0) (v I 3))
        (.guard (lt (v I 3) (ln (v (L I) 1)))
         (.guard (le (c 0) (v I 3))
          (.guard (lt (v I 3) (ln (v (L (L T4)) 8)))
           (.call f_impl_eval [a (ix (v (L (L T4)) 8) (v I 3)), a (v (L I) 0)] 909
            (.guard (le (c 0) (ix (v (L I) 1) (v I 3)))
             (.guard (lt (ix (v (L I) 1) (v I 3)) (ln (v (L I) 9)))
              (.jump 0 [a (v (L I) 0), a (v (L I) 1), a (v I 2), a (add (v I 3) (c 1)), a (v (L V3) 4), a (v (L TR) 5), a (v (L T4) 6), a (v (L I) 7), a (v (L (L T4)) 8), a (st (v (L I) 9) (ix (v (L I) 1) (v I 3)) (v I 909))]))))))))
       (.call f_impl_inRange [a (v (L V3) 4), a (v (L TR) 5), a (v (L I) 9)] 205
        (.ite (nt (v B 205))
         (.ret [a (nl I), a (k false)])
         (.ret [a (v (L I) 9), a (k true)])))))))))
def tr_laws_eqVar : Tr := .ite (ne (v I 0) (v I 3))
 (.ret [a (k false)])
 (.ite (ne (v I 1) (v I 4))
  (.ret [a (k false)])
  (.ite (ne (v I 2) (v I 5))
   (.ret [a (k false)])
   (.ret [a (k true)])))
def tr_laws_eqVarS : Tr := .ite (ne (ln (v (L V3) 0)) (ln (v (L V3) 1)))
 (.ret [a (k false)])
 (.loop [a (v (L V3) 0), a (v (L V3) 1), a (c 0)]
  (.ite (lt (v I 2) (ln (v (L V3) 0)))
   (.guard (le (c 0) (v I 2))
    (.guard (lt (v I 2) (ln (v (L V3) 0)))
     (.guard (le (c 0) (v I 2))
      (.guard (lt (v I 2) (ln (v (L V3) 1)))
       (.call f_laws_eqVar [a (f (ix (v (L V3) 0) (v I 2))), a (f (s (ix (v (L V3) 0) (v I 2)))), a (s (s (ix (v (L V3) 0) (v I 2)))), a (f (ix (v (L V3) 1) (v I 2))), a (f (s (ix (v (L V3) 1) (v I 2)))), a (s (s (ix (v (L V3) 1) (v I 2))))] 771
        (.ite (nt (v B 771))
         (.ret [a (k false)])
         (.jump 0 [a (v (L V3) 0), a (v (L V3) 1), a (add (v I 2) (c 1))])))))))
   (.ret [a (k true)])))
def tr_laws_eqTerm : Tr := .ite (ne (v I 0) (v I 4))
 (.ret [a (k false)])
 (.ite (ne (v I 1) (v I 5))
  (.ret [a (k false)])
  (.ite (ne (v I 2) (v I 6))
   (.ret [a (k false)])
   (.ite (ne (v I 3) (v I 7))
    (.ret [a (k false)])
    (.ret [a (k true)]))))
def tr_laws_eqTermS : Tr := .ite (ne (ln (v (L T4) 0)) (ln (v (L T4) 1)))
 (.ret [a (k false)])
 (.loop [a (v (L T4) 0), a (v (L T4) 1), a (c 0)]
  (.ite (lt (v I 2) (ln (v (L T4) 0)))
   (.guard (le (c 0) (v I 2))
    (.guard (lt (v I 2) (ln (v (L T4) 0)))
     (.guard (le (c 0) (v I 2))
      (.guard (lt (v I 2) (ln (v (L T4) 1)))
       (.call f_laws_eqTerm [a (f (ix (v (L T4) 0) (v I 2))), a (f (s (ix (v (L T4) 0) (v I 2)))), a (f (s (s (ix (v (L T4) 0) (v I 2))))), a (s (s (s (ix (v (L T4) 0) (v I 2))))), a (f (ix (v (L T4) 1) (v I 2))), a (f (s (ix (v (L T4) 1) (v I 2)))), a (f (s (s (ix (v (L T4) 1) (v I 2))))), a (s (s (s (ix (v (L T4) 1) (v I 2)))))] 771
        (.ite (nt (v B 771))
         (.ret [a (k false)])
         (.jump 0 [a (v (L T4) 0), a (v (L T4) 1), a (add (v I 2) (c 1))])))))))
   (.ret [a (k true)])))
def tr_laws_eqIntS : Tr := .ite (ne (ln (v (L I) 0)) (ln (v (L I) 1)))
 (.ret [a (k false)])
 (.loop [a (v (L I) 0), a (v (L I) 1), a (c 0)]
  (.ite (lt (v I 2) (ln (v (L I) 0)))
   (.guard (le (c 0) (v I 2))
    (.guard (lt (v I 2) (ln (v (L I) 0)))
     (.guard (le (c 0) (v I 2))
      (.guard (lt (v I 2) (ln (v (L I) 1)))
       (.ite (ne (ix (v (L I) 0) (v I 2)) (ix (v (L I) 1) (v I 2)))
        (.ret [a (k false)])
        (.jump 0 [a (v (L I) 0), a (v (L I) 1), a (add (v I 2) (c 1))]))))))
   (.ret [a (k true)])))
def tr_laws_eqTermSS : Tr := .ite (ne (ln (v (L (L T4)) 0)) (ln (v (L (L T4)) 1)))
 (.ret [a (k false)])
 (.loop [a (v (L (L T4)) 0), a (v (L (L T4)) 1), a (c 0)]
  (.ite (lt (v I 2) (ln (v (L (L T4)) 0)))
   (.guard (le (c 0) (v I 2))
    (.guard (lt (v I 2) (ln (v (L (L T4)) 0)))
     (.guard (le (c 0) (v I 2))
      (.guard (lt (v I 2) (ln (v (L (L T4)) 1)))
       (.call f_laws_eqTermS [a (ix (v (L (L T4)) 0) (v I 2)), a (ix (v (L (L T4)) 1) (v I 2))] 771
        (.ite (nt (v B 771))
         (.ret [a (k false)])
         (.jump 0 [a (v (L (L T4)) 0), a (v (L (L T4)) 1), a (add (v I 2) (c 1))])))))))
   (.ret [a (k true)])))
def tr_laws_eqRule : Tr := .call f_laws_eqTermS [a (v (L T4) 0), a (v (L T4) 3)] 100448
 (.ite (nt (v B 100448))
  (.ret [a (k false)])
  (.call f_laws_eqIntS [a (v (L I) 1), a (v (L I) 4)] 100832
   (.ite (nt (v B 100832))
    (.ret [a (k false)])
    (.call f_laws_eqTermSS [a (v (L (L T4)) 2), a (v (L (L T4)) 5)] 101216
     (.ite (nt (v B 101216))
      (.ret [a (k false)])
      (.ret [a (k true)]))))))
def tr_laws_eqRuleS : Tr := .ite (ne (ln (v (L TR) 0)) (ln (v (L TR) 1)))
 (.ret [a (k false)])
 (.loop [a (v (L TR) 0), a (v (L TR) 1), a (c 0)]
  (.ite (lt (v I 2) (ln (v (L TR) 0)))
   (.guard (le (c 0) (v I 2))
    (.guard (lt (v I 2) (ln (v (L TR) 0)))
     (.guard (le (c 0) (v I 2))
      (.guard (lt (v I 2) (ln (v (L TR) 1)))
       (.call f_laws_eqRule [a (f (ix (v (L TR) 0) (v I 2))), a (f (s (ix (v (L TR) 0) (v I 2)))), a (s (s (ix (v (L TR) 0) (v I 2)))), a (f (ix (v (L TR) 1) (v I 2))), a (f (s (ix (v (L TR) 1) (v I 2)))), a (s (s (ix (v (L TR) 1) (v I 2))))] 771
        (.ite (nt (v B 771))
         (.ret [a (k false)])
         (.jump 0 [a (v (L TR) 0), a (v (L TR) 1), a (add (v I 2) (c 1))])))))))
   (.ret [a (k true)])))
def tr_laws_eqSystem : Tr := .call f_laws_eqVarS [a (v (L V3) 0), a (v (L V3) 2)] 100448
 (.ite (nt (v B 100448))
  (.ret [a (k false)])
  (.call f_laws_eqRuleS [a (v (L TR) 1), a (v (L TR) 3)] 100832
   (.ite (nt (v B 100832))
    (.ret [a (k false)])
    (.ret [a (k true)]))))
end Go.Proofs.YthapopegchnhlaaGreat
namespace Go.Proofs.YthapopegchnhlaaGreat
open Go Go.Sm Go.Sm.Q
def tr_cmp_isNaN_int : Tr := .ret [a (ne (v I 0) (v I 0))]
def tr_spec_l2Has : Tr := .loop [a (v (L I) 0), a (v I 1), a (c 0)]
 (.ite (lt (v I 2) (ln (v (L I) 0)))
  (.guard (le (c 0) (v I 2))
   (.guard (lt (v I 2) (ln (v (L I) 0)))
    (.ite (eq (ix (v (L I) 0) (v I 2)) (v I 1))
     (.ret [a (k true)])
     (.jump 0 [a (v (L I) 0), a (v I 1), a (add (v I 2) (c 1))]))))
  (.ret [a (k false)]))
def tr_spec_SizeOf : Tr := .call f_spec_SystemValid [a (v (L V3) 0), a (v (L TR) 1)] 100192
 (.ite (nt (v B 100192))
  (.ret [a (c 0)])
  (.loop [a (c 1), a (c 0), a (v (L V3) 0), a (v (L TR) 1)]
   (.ite (lt (v I 1) (ln (v (L V3) 2)))
    (.guard (le (c 0) (v I 1))
     (.guard (lt (v I 1) (ln (v (L V3) 2)))
      (.guard (le (c 0) (v I 1))
       (.guard (lt (v I 1) (ln (v (L V3) 2)))
        (.jump 0 [a (mul (v I 0) (add (sub (f (s (ix (v (L V3) 2) (v I 1)))) (f (ix (v (L V3) 2) (v I 1)))) (c 1))), a (add (v I 1) (c 1)), a (v (L V3) 2), a (v (L TR) 3)])))))
    (.ret [a (v I 0)]))))
def tr_impl_stateAt : Tr := .guard (le (c 0) (ln (v (L V3) 0)))
 (.guard (le (ln (v (L V3) 0)) (c 549755813888))
  (.loop [a (v I 2), a (sub (ln (rep (ln (v (L V3) 0)) (z I))) (c 1)), a (v (L V3) 0), a (v (L TR) 1), a (rep (ln (v (L V3) 0)) (z I))]
   (.ite (ge (v I 1) (c 0))
    (.guard (le (c 0) (v I 1))
     (.guard (lt (v I 1) (ln (v (L V3) 2)))
      (.guard (ne (add (sub (f (s (ix (v (L V3) 2) (v I 1)))) (f (ix (v (L V3) 2) (v I 1)))) (c 1)) (c 0))
       (.guard (le (c 0) (v I 1))
        (.guard (lt (v I 1) (ln (v (L I) 4)))
         (.guard (ne (add (sub (f (s (ix (v (L V3) 2) (v I 1)))) (f (ix (v (L V3) 2) (v I 1)))) (c 1)) (c 0))
          (.jump 0 [a (quo (v I 0) (add (sub (f (s (ix (v (L V3) 2) (v I 1)))) (f (ix (v (L V3) 2) (v I 1)))) (c 1))), a (sub (v I 1) (c 1)), a (v (L V3) 2), a (v (L TR) 3), a (st (v (L I) 4) (v I 1) (add (f (ix (v (L V3) 2) (v I 1))) (rem (v I 0) (add (sub (f (s (ix (v (L V3) 2) (v I 1)))) (f (ix (v (L V3) 2) (v I 1)))) (c 1)))))])))))))
    (.ret [a (v (L I) 4)]))))
def tr_spec_SetValid : Tr := .call f_spec_SizeOf [a (v (L V3) 0), a (v (L TR) 1)] 100192
 (.loop [a (v (L I) 2), a (v I 100192), a (c 0)]
  (.ite (lt (v I 2) (ln (v (L I) 0)))
   (.join
    (.guard (le (c 0) (v I 2))
     (.guard (lt (v I 2) (ln (v (L I) 0)))
      (.call f_spec_l1In [a (ix (v (L I) 0) (v I 2)), a (c 0), a (sub (v I 1) (c 1))] 643
       (.ite (nt (v B 643))
        (.ret [a (k false)])
        (.ite (gt (v I 2) (c 0))
         (.guard (le (c 0) (v I 2))
          (.guard (lt (v I 2) (ln (v (L I) 0)))
           (.guard (le (c 0) (sub (v I 2) (c 1)))
            (.guard (lt (sub (v I 2) (c 1)) (ln (v (L I) 0)))
             (.ite (le (ix (v (L I) 0) (v I 2)) (ix (v (L I) 0) (sub (v I 2) (c 1))))
              (.ret [a (k false)])
              (.jump 0 [a (v (L I) 0), a (v I 1), a (v I 2)]))))))
         (.jump 0 [a (v (L I) 0), a (v I 1), a (v I 2)]))))))
    (.jump 0 [a (v (L I) 0), a (v I 1), a (add (v I 2) (c 1))]))
   (.ret [a (gt (v I 1) (c 0))])))
def tr_spec_l3Copy : Tr := .loop [a (v (L I) 0), a (c 0), a (nl I)]
 (.ite (lt (v I 1) (ln (v (L I) 0)))
  (.guard (le (c 0) (v I 1))
   (.guard (lt (v I 1) (ln (v (L I) 0)))
    (.guard (le (ln (v (L I) 2)) (c 549755813888))
     (.guard (le (ln (one (ix (v (L I) 0) (v I 1)))) (c 549755813888))
      (.jump 0 [a (v (L I) 0), a (add (v I 1) (c 1)), a (app (v (L I) 2) (one (ix (v (L I) 0) (v I 1))))])))))
  (.ret [a (v (L I) 2)]))
def tr_spec_l4State : Tr := .call f_spec_FirstState [a (v (L V3) 0), a (v (L TR) 1)] 100192
 (.call f_spec_l3Copy [a (v (L I) 100192)] 100256
  (.loop [a (v I 2), a (sub (ln (v (L V3) 0)) (c 1)), a (v (L V3) 0), a (v (L TR) 1), a (v (L I) 100256)]
   (.ite (ge (v I 1) (c 0))
    (.guard (le (c 0) (v I 1))
     (.guard (lt (v I 1) (ln (v (L V3) 2)))
      (.guard (le (c 0) (v I 1))
       (.guard (lt (v I 1) (ln (v (L V3) 2)))
        (.guard (le (c 0) (v I 1))
         (.guard (lt (v I 1) (ln (v (L V3) 2)))
          (.guard (ne (add (sub (f (s (ix (v (L V3) 2) (v I 1)))) (f (ix (v (L V3) 2) (v I 1)))) (c 1)) (c 0))
           (.guard (le (c 0) (v I 1))
            (.guard (lt (v I 1) (ln (v (L I) 4)))
             (.guard (ne (add (sub (f (s (ix (v (L V3) 2) (v I 1)))) (f (ix (v (L V3) 2) (v I 1)))) (c 1)) (c 0))
              (.jump 0 [a (quo (v I 0) (add (sub (f (s (ix (v (L V3) 2) (v I 1)))) (f (ix (v (L V3) 2) (v I 1)))) (c 1))), a (sub (v I 1) (c 1)), a (v (L V3) 2), a (v (L TR) 3), a (st (v (L I) 4) (v I 1) (add (f (ix (v (L V3) 2) (v I 1))) (rem (v I 0) (add (sub (f (s (ix (v (L V3) 2) (v I 1)))) (f (ix (v (L V3) 2) (v I 1)))) (c 1)))))])))))))))))
    (.ret [a (v (L I) 4)]))))
def tr_spec_l4Number : Tr := .loop [a (v (L I) 2), a (c 0), a (c 0), a (v (L V3) 0), a (v (L TR) 1)]
 (.ite (lt (v I 2) (ln (v (L I) 0)))
  (.guard (le (c 0) (v I 2))
   (.guard (lt (v I 2) (ln (v (L V3) 3)))
    (.guard (le (c 0) (v I 2))
     (.guard (lt (v I 2) (ln (v (L V3) 3)))
      (.guard (le (c 0) (v I 2))
       (.guard (lt (v I 2) (ln (v (L I) 0)))
        (.guard (le (c 0) (v I 2))
         (.guard (lt (v I 2) (ln (v (L V3) 3)))
          (.jump 0 [a (v (L I) 0), a (sub (add (mul (v I 1) (add (sub (f (s (ix (v (L V3) 3) (v I 2)))) (f (ix (v (L V3) 3) (v I 2)))) (c 1))) (ix (v (L I) 0) (v I 2))) (f (ix (v (L V3) 3) (v I 2)))), a (add (v I 2) (c 1)), a (v (L V3) 3), a (v (L TR) 4)])))))))))
  (.ret [a (v I 1)]))
def tr_spec_l4Steps : Tr := .loop [a (c 0), a (v (L V3) 0), a (v (L TR) 1), a (nl (L I))]
 (.call f_spec_SizeOf [a (v (L V3) 1), a (v (L TR) 2)] 134
  (.ite (lt (v I 0) (v I 134))
   (.call f_spec_l4State [a (v (L V3) 1), a (v (L TR) 2), a (v I 0)] 454
    (.call f_spec_l2Next [a (v (L V3) 1), a (v (L TR) 2), a (v (L I) 454)] 518
     (.loop [a (v I 0), a (c 0), a (v (L V3) 1), a (v (L TR) 2), a (v (L (L I)) 3), a (v (L (L I)) 518), a (nl I)]
      (.ite (lt (v I 1) (ln (v (L (L I)) 5)))
       (.guard (le (c 0) (v I 1))
        (.guard (lt (v I 1) (ln (v (L (L I)) 5)))
         (.call f_spec_l4Number [a (v (L V3) 2), a (v (L TR) 3), a (ix (v (L (L I)) 5) (v I 1))] 651
          (.guard (le (ln (v (L I) 6)) (c 549755813888))
           (.guard (le (ln (one (v I 651))) (c 549755813888))
            (.jump 0 [a (v I 0), a (add (v I 1) (c 1)), a (v (L V3) 2), a (v (L TR) 3), a (v (L (L I)) 4), a (v (L (L I)) 5), a (app (v (L I) 6) (one (v I 651)))]))))))
       (.guard (le (ln (v (L (L I)) 4)) (c 549755813888))
        (.guard (le (ln (one (v (L I) 6))) (c 549755813888))
         (.jump 1 [a (add (v I 0) (c 1)), a (v (L V3) 2), a (v (L TR) 3), a (app (v (L (L I)) 4) (one (v (L I) 6)))])))))))
   (.ret [a (v (L (L I)) 3)])))
def tr_spec_l5Turned : Tr := .loop [a (v (L (L I)) 0), a (c 0), a (nl (L I))]
 (.ite (lt (v I 1) (ln (v (L (L I)) 0)))
  (.loop [a (v (L (L I)) 0), a (v I 1), a (c 0), a (v (L (L I)) 2), a (nl I)]
   (.ite (lt (v I 2) (ln (v (L (L I)) 0)))
    (.join
     (.guard (le (c 0) (v I 2))
      (.guard (lt (v I 2) (ln (v (L (L I)) 0)))
       (.call f_spec_l2Has [a (ix (v (L (L I)) 0) (v I 2)), a (v I 1)] 583
        (.ite (v B 583)
         (.guard (le (ln (v (L I) 4)) (c 549755813888))
          (.guard (le (ln (one (v I 2))) (c 549755813888))
           (.jump 0 [a (v (L (L I)) 0), a (v I 1), a (v I 2), a (v (L (L I)) 3), a (app (v (L I) 4) (one (v I 2)))])))
         (.jump 0 [a (v (L (L I)) 0), a (v I 1), a (v I 2), a (v (L (L I)) 3), a (v (L I) 4)])))))
     (.jump 0 [a (v (L (L I)) 0), a (v I 1), a (add (v I 2) (c 1)), a (v (L (L I)) 3), a (v (L I) 4)]))
    (.guard (le (ln (v (L (L I)) 3)) (c 549755813888))
     (.guard (le (ln (one (v (L I) 4))) (c 549755813888))
      (.jump 1 [a (v (L (L I)) 0), a (add (v I 1) (c 1)), a (app (v (L (L I)) 3) (one (v (L I) 4)))])))))
  (.ret [a (v (L (L I)) 2)]))
def tr_spec_l4Marks : Tr := .guard (le (c 0) (v I 1))
 (.guard (le (v I 1) (c 549755813888))
  (.loop [a (v (L I) 0), a (c 0), a (rep (v I 1) (z B))]
   (.ite (lt (v I 1) (ln (v (L I) 0)))
    (.guard (le (c 0) (v I 1))
     (.guard (lt (v I 1) (ln (v (L I) 0)))
      (.guard (le (c 0) (ix (v (L I) 0) (v I 1)))
       (.guard (lt (ix (v (L I) 0) (v I 1)) (ln (v (L B) 2)))
        (.jump 0 [a (v (L I) 0), a (add (v I 1) (c 1)), a (st (v (L B) 2) (ix (v (L I) 0) (v I 1)) (k true))])))))
    (.ret [a (v (L B) 2)]))))
def tr_spec_l5Steps : Tr := .loop [a (v (L (L I)) 0), a (v (L B) 1), a (c 0), a (nl I)]
 (.ite (lt (v I 2) (ln (v (L (L I)) 0)))
  (.join
   (.guard (le (c 0) (v I 2))
    (.guard (lt (v I 2) (ln (v (L B) 1)))
     (.ite (ix (v (L B) 1) (v I 2))
      (.guard (le (ln (v (L I) 3)) (c 549755813888))
       (.guard (le (ln (one (c 0))) (c 549755813888))
        (.jump 0 [a (v (L (L I)) 0), a (v (L B) 1), a (v I 2), a (app (v (L I) 3) (one (c 0)))])))
      (.guard (le (ln (v (L I) 3)) (c 549755813888))
       (.guard (le (ln (one (c (-1)))) (c 549755813888))
        (.jump 0 [a (v (L (L I)) 0), a (v (L B) 1), a (v I 2), a (app (v (L I) 3) (one (c (-1))))]))))))
   (.jump 0 [a (v (L (L I)) 0), a (v (L B) 1), a (add (v I 2) (c 1)), a (v (L I) 3)]))
  (.loop [a (v (L (L I)) 0), a (k true), a (c 0), a (v (L I) 3)]
   (.ite (v B 1)
    (.loop [a (v (L (L I)) 0), a (k false), a (v I 2), a (c 0), a (v (L I) 3)]
     (.ite (lt (v I 3) (ln (v (L (L I)) 0)))
      (.join
       (.loop [a (v (L (L I)) 0), a (v B 1), a (v I 2), a (v I 3), a (c 0), a (v (L I) 4)]
        (.guard (le (c 0) (v I 3))
         (.guard (lt (v I 3) (ln (v (L (L I)) 0)))
          (.ite (lt (v I 4) (ln (ix (v (L (L I)) 0) (v I 3))))
           (.guard (le (c 0) (v I 3))
            (.guard (lt (v I 3) (ln (v (L I) 5)))
             (.ite (eq (ix (v (L I) 5) (v I 3)) (v I 2))
              (.join
               (.guard (le (c 0) (v I 3))
                (.guard (lt (v I 3) (ln (v (L (L I)) 0)))
                 (.guard (le (c 0) (v I 4))
                  (.guard (lt (v I 4) (ln (ix (v (L (L I)) 0) (v I 3))))
                   (.guard (le (c 0) (ix (ix (v (L (L I)) 0) (v I 3)) (v I 4)))
                    (.guard (lt (ix (ix (v (L (L I)) 0) (v I 3)) (v I 4)) (ln (v (L I) 5)))
                     (.ite (lt (ix (v (L I) 5) (ix (ix (v (L (L I)) 0) (v I 3)) (v I 4))) (c 0))
                      (.guard (le (c 0) (v I 3))
                       (.guard (lt (v I 3) (ln (v (L (L I)) 0)))
                        (.guard (le (c 0) (v I 4))
                         (.guard (lt (v I 4) (ln (ix (v (L (L I)) 0) (v I 3))))
                          (.guard (le (c 0) (ix (ix (v (L (L I)) 0) (v I 3)) (v I 4)))
                           (.guard (lt (ix (ix (v (L (L I)) 0) (v I 3)) (v I 4)) (ln (v (L I) 5)))
                            (.jump 0 [a (v (L (L I)) 0), a (k true), a (v I 2), a (v I 3), a (v I 4), a (st (v (L I) 5) (ix (ix (v (L (L I)) 0) (v I 3)) (v I 4)) (add (v I 2) (c 1)))])))))))
                      (.jump 0 [a (v (L (L I)) 0), a (v B 1), a (v I 2), a (v I 3), a (v I 4), a (v (L I) 5)]))))))))
               (.jump 0 [a (v (L (L I)) 0), a (v B 1), a (v I 2), a (v I 3), a (add (v I 4) (c 1)), a (v (L I) 5)]))
              (.jump 1 [a (v (L (L I)) 0), a (v B 1), a (v I 2), a (v I 3), a (v (L I) 5)]))))
           (.jump 1 [a (v (L (L I)) 0), a (v B 1), a (v I 2), a (v I 3), a (v (L I) 5)])))))
       (.jump 0 [a (v (L (L I)) 0), a (v B 1), a (v I 2), a (add (v I 3) (c 1)), a (v (L I) 4)]))
      (.jump 1 [a (v (L (L I)) 0), a (v B 1), a (add (v I 2) (c 1)), a (v (L I) 4)])))
    (.ret [a (v (L I) 3)]))))
def tr_spec_l5Told : Tr := .guard (le (c 0) (ln (v (L I) 0)))
 (.guard (le (ln (v (L I) 0)) (c 549755813888))
  (.loop [a (v (L I) 0), a (c 0), a (rep (ln (v (L I) 0)) (z B))]
   (.ite (lt (v I 1) (ln (v (L I) 0)))
    (.guard (le (c 0) (v I 1))
     (.guard (lt (v I 1) (ln (v (L I) 0)))
      (.guard (le (c 0) (v I 1))
       (.guard (lt (v I 1) (ln (v (L B) 2)))
        (.jump 0 [a (v (L I) 0), a (add (v I 1) (c 1)), a (st (v (L B) 2) (v I 1) (ge (ix (v (L I) 0) (v I 1)) (c 0)))])))))
    (.ret [a (v (L B) 2)]))))
def tr_spec_l4List : Tr := .loop [a (v (L B) 0), a (c 0), a (nl I)]
 (.ite (lt (v I 1) (ln (v (L B) 0)))
  (.join
   (.guard (le (c 0) (v I 1))
    (.guard (lt (v I 1) (ln (v (L B) 0)))
     (.ite (ix (v (L B) 0) (v I 1))
      (.guard (le (ln (v (L I) 2)) (c 549755813888))
       (.guard (le (ln (one (v I 1))) (c 549755813888))
        (.jump 0 [a (v (L B) 0), a (v I 1), a (app (v (L I) 2) (one (v I 1)))])))
      (.jump 0 [a (v (L B) 0), a (v I 1), a (v (L I) 2)]))))
   (.jump 0 [a (v (L B) 0), a (add (v I 1) (c 1)), a (v (L I) 2)]))
  (.ret [a (v (L I) 2)]))
def tr_spec_CanReach : Tr := .call f_spec_SetValid [a (v (L V3) 0), a (v (L TR) 1), a (v (L I) 2)] 100256
 (.ite (nt (v B 100256))
  (.ret [a (nl I)])
  (.call f_spec_l4Steps [a (v (L V3) 0), a (v (L TR) 1)] 100576
   (.call f_spec_l5Turned [a (v (L (L I)) 100576)] 100640
    (.call f_spec_SizeOf [a (v (L V3) 0), a (v (L TR) 1)] 100704
     (.call f_spec_l4Marks [a (v (L I) 2), a (v I 100704)] 100768
      (.call f_spec_l5Steps [a (v (L (L I)) 100640), a (v (L B) 100768)] 100832
       (.call f_spec_l5Told [a (v (L I) 100832)] 100896
        (.call f_spec_l4List [a (v (L B) 100896)] 100960
         (.ret [a (v (L I) 100960)])))))))))
def tr_impl_setOk : Tr := .loop [a (v (L I) 0), a (v I 1), a (v (L I) 0), a (ln (v (L I) 0)), a (c 0)]
 (.ite (lt (v I 4) (v I 3))
  (.join
   (.guard (le (c 0) (v I 4))
    (.guard (lt (v I 4) (ln (v (L I) 2)))
     (.call f_impl_in [a (ix (v (L I) 2) (v I 4)), a (c 0), a (sub (v I 1) (c 1))] 581
      (.ite (nt (v B 581))
       (.ret [a (k false)])
       (.ite (gt (v I 4) (c 0))
        (.guard (le (c 0) (sub (v I 4) (c 1)))
         (.guard (lt (sub (v I 4) (c 1)) (ln (v (L I) 0)))
          (.ite (ge (ix (v (L I) 0) (sub (v I 4) (c 1))) (ix (v (L I) 2) (v I 4)))
           (.ret [a (k false)])
           (.jump 0 [a (v (L I) 0), a (v I 1), a (v (L I) 2), a (v I 3), a (v I 4)]))))
        (.jump 0 [a (v (L I) 0), a (v I 1), a (v (L I) 2), a (v I 3), a (v I 4)]))))))
   (.jump 0 [a (v (L I) 0), a (v I 1), a (v (L I) 2), a (v I 3), a (add (v I 4) (c 1))]))
  (.ret [a (k true)]))
def tr_impl_SetValid : Tr := .call f_impl_SystemValid [a (v (L V3) 0), a (v (L TR) 1)] 100192
 (.ite (v B 100192)
  (.call f_impl_size [a (v (L V3) 0)] 100512
   (.call f_impl_setOk [a (v (L I) 2), a (v I 100512)] 100576
    (.ret [a (v B 100576)])))
  (.ret [a (k false)]))
def tr_cmp_Compare_int : Tr := .call f_cmp_isNaN_int [a (v I 0)] 100128
 (.call f_cmp_isNaN_int [a (v I 1)] 100320
  (.ite (v B 100128)
   (.ite (v B 100320)
    (.ret [a (c 0)])
    (.ret [a (c (-1))]))
   (.ite (v B 100320)
    (.ret [a (c 1)])
    (.ite (lt (v I 0) (v I 1))
     (.ret [a (c (-1))])
     (.ite (gt (v I 0) (v I 1))
      (.ret [a (c 1)])
      (.ret [a (c 0)]))))))
def tr_slices_Compare_Sint_int : Tr := .loop [a (v (L I) 0), a (v (L I) 1), a (v (L I) 0), a (ln (v (L I) 0)), a (c 0)]
 (.ite (lt (v I 4) (v I 3))
  (.guard (le (c 0) (v I 4))
   (.guard (lt (v I 4) (ln (v (L I) 2)))
    (.ite (ge (v I 4) (ln (v (L I) 1)))
     (.ret [a (c 1)])
     (.guard (le (c 0) (v I 4))
      (.guard (lt (v I 4) (ln (v (L I) 1)))
       (.call f_cmp_Compare_int [a (ix (v (L I) 2) (v I 4)), a (ix (v (L I) 1) (v I 4))] 1093
        (.ite (ne (v I 1093) (c 0))
         (.ret [a (v I 1093)])
         (.jump 0 [a (v (L I) 0), a (v (L I) 1), a (v (L I) 2), a (v I 3), a (add (v I 4) (c 1))]))))))))
  (.ite (lt (ln (v (L I) 0)) (ln (v (L I) 1)))
   (.ret [a (c (-1))])
   (.ret [a (c 0)])))
def tr_slices_Reverse_SSint_Sint : Tr := .loop [a (c 0), a (sub (ln (v (L (L I)) 0)) (c 1)), a (v (L (L I)) 0)]
 (.ite (lt (v I 0) (v I 1))
  (.guard (le (c 0) (v I 1))
   (.guard (lt (v I 1) (ln (v (L (L I)) 2)))
    (.guard (le (c 0) (v I 0))
     (.guard (lt (v I 0) (ln (v (L (L I)) 2)))
      (.guard (le (c 0) (v I 0))
       (.guard (lt (v I 0) (ln (v (L (L I)) 2)))
        (.guard (le (c 0) (v I 1))
         (.guard (lt (v I 1) (ln (st (v (L (L I)) 2) (v I 0) (ix (v (L (L I)) 2) (v I 1)))))
          (.jump 0 [a (add (v I 0) (c 1)), a (sub (v I 1) (c 1)), a (st (st (v (L (L I)) 2) (v I 0) (ix (v (L (L I)) 2) (v I 1))) (v I 1) (ix (v (L (L I)) 2) (v I 0)))])))))))))
  (.ret []))
def tr_impl_clone_Sint : Tr := .ite (eq (ln (v (L (L I)) 0)) (c 0))
 (.ret [a (nl (L I))])
 (.guard (le (c 0) (ln (v (L (L I)) 0)))
  (.guard (le (ln (v (L (L I)) 0)) (c 549755813888))
   (.ret [a (over (rep (ln (v (L (L I)) 0)) (z (L I))) (v (L (L I)) 0))])))
def tr_impl_nextStates : Tr := .loop [a (v (L I) 2), a (ln (v (L TR) 1)), a (c 0), a (v (L V3) 0), a (v (L TR) 1), a (nl (L I))]
 (.ite (lt (v I 2) (v I 1))
  (.join
   (.call f_impl_use [a (v (L V3) 3), a (v (L TR) 4), a (v (L I) 0), a (v I 2)] 392
    (.ite (v B 393)
     (.join
      (.loop [a (ln (v (L (L I)) 5)), a (c 0), a (ln (v (L (L I)) 5)), a (v (L I) 0), a (v I 1), a (v I 2), a (v (L (L I)) 5), a (v (L I) 392), a (v (L V3) 3), a (v (L TR) 4)]
       (.ite (lt (v I 1) (v I 2))
        (.guard (le (c 0) (.o1 (.conv .u64 .i64) (.o2 (.sh false .u64 .u64) (.o1 (.conv .i64 .u64) (add (v I 1) (v I 2))) (.int .u64 1))))
         (.guard (lt (.o1 (.conv .u64 .i64) (.o2 (.sh false .u64 .u64) (.o1 (.conv .i64 .u64) (add (v I 1) (v I 2))) (.int .u64 1))) (ln (v (L (L I)) 6)))
          (.call f_slices_Compare_Sint_int [a (ix (v (L (L I)) 6) (.o1 (.conv .u64 .i64) (.o2 (.sh false .u64 .u64) (.o1 (.conv .i64 .u64) (add (v I 1) (v I 2))) (.int .u64 1)))), a (v (L I) 7)] 1037
           (.ite (lt (v I 1037) (c 0))
            (.jump 0 [a (v I 0), a (add (.o1 (.conv .u64 .i64) (.o2 (.sh false .u64 .u64) (.o1 (.conv .i64 .u64) (add (v I 1) (v I 2))) (.int .u64 1))) (c 1)), a (v I 2), a (v (L I) 3), a (v I 4), a (v I 5), a (v (L (L I)) 6), a (v (L I) 7), a (v (L V3) 8), a (v (L TR) 9)])
            (.jump 0 [a (v I 0), a (v I 1), a (.o1 (.conv .u64 .i64) (.o2 (.sh false .u64 .u64) (.o1 (.conv .i64 .u64) (add (v I 1) (v I 2))) (.int .u64 1))), a (v (L I) 3), a (v I 4), a (v I 5), a (v (L (L I)) 6), a (v (L I) 7), a (v (L V3) 8), a (v (L TR) 9)])))))
        (.ite (lt (v I 1) (v I 0))
         (.guard (le (c 0) (v I 1))
          (.guard (lt (v I 1) (ln (v (L (L I)) 6)))
           (.call f_slices_Compare_Sint_int [a (ix (v (L (L I)) 6) (v I 1)), a (v (L I) 7)] 909
            (.jump 1 [a (v (L I) 3), a (v I 1), a (eq (v I 909) (c 0)), a (v I 4), a (v I 5), a (v (L V3) 8), a (v (L TR) 9), a (v (L (L I)) 6), a (v (L I) 7)]))))
         (.jump 1 [a (v (L I) 3), a (v I 1), a (k false), a (v I 4), a (v I 5), a (v (L V3) 8), a (v (L TR) 9), a (v (L (L I)) 6), a (v (L I) 7)]))))
      (.ite (nt (v B 2))
       (.guard (le (c 0) (v I 1))
        (.guard (le (v I 1) (ln (v (L (L I)) 7)))
         (.guard (le (ln (v (L (L I)) 7)) (c 549755813888))
          (.guard (eq (ln (one (v (L I) 8))) (c 1))
           (.jump 0 [a (v (L I) 0), a (v I 3), a (v I 4), a (v (L V3) 5), a (v (L TR) 6), a (app (app (take (v (L (L I)) 7) (v I 1)) (one (v (L I) 8))) (drop (v (L (L I)) 7) (v I 1)))])))))
       (.jump 0 [a (v (L I) 0), a (v I 3), a (v I 4), a (v (L V3) 5), a (v (L TR) 6), a (v (L (L I)) 7)])))
     (.jump 0 [a (v (L I) 0), a (v I 1), a (v I 2), a (v (L V3) 3), a (v (L TR) 4), a (v (L (L I)) 5)])))
   (.jump 0 [a (v (L I) 0), a (v I 1), a (add (v I 2) (c 1)), a (v (L V3) 3), a (v (L TR) 4), a (v (L (L I)) 5)]))
  (.call f_impl_clone_Sint [a (v (L (L I)) 5)] 136
   (.ret [a (v (L (L I)) 136)])))
def tr_impl_number : Tr := .loop [a (v (L I) 2), a (c 0), a (v (L V3) 0), a (ln (v (L V3) 0)), a (c 0)]
 (.ite (lt (v I 4) (v I 3))
  (.guard (le (c 0) (v I 4))
   (.guard (lt (v I 4) (ln (v (L V3) 2)))
    (.guard (le (c 0) (v I 4))
     (.guard (lt (v I 4) (ln (v (L I) 0)))
      (.jump 0 [a (v (L I) 0), a (sub (add (mul (v I 1) (add (sub (f (s (ix (v (L V3) 2) (v I 4)))) (f (ix (v (L V3) 2) (v I 4)))) (c 1))) (ix (v (L I) 0) (v I 4))) (f (ix (v (L V3) 2) (v I 4)))), a (v (L V3) 2), a (v I 3), a (add (v I 4) (c 1))])))))
  (.ret [a (v I 1)]))
def tr_impl_nexts : Tr := .call f_impl_size [a (v (L V3) 0)] 100256
 (.guard (le (c 0) (v I 100256))
  (.guard (le (v I 100256) (c 549755813888))
   (.loop [a (ln (rep (v I 100256) (z (L I)))), a (c 0), a (v (L V3) 0), a (v (L TR) 1), a (rep (v I 100256) (z (L I)))]
    (.ite (lt (v I 1) (v I 0))
     (.call f_impl_stateAt [a (v (L V3) 2), a (v (L TR) 3), a (v I 1)] 455
      (.call f_impl_nextStates [a (v (L V3) 2), a (v (L TR) 3), a (v (L I) 455)] 519
       (.loop [a (v I 1), a (v I 0), a (v I 1), a (ln (v (L (L I)) 519)), a (c 0), a (v (L V3) 2), a (v (L TR) 3), a (v (L (L I)) 4), a (v (L (L I)) 519)]
        (.ite (lt (v I 4) (v I 3))
         (.guard (le (c 0) (v I 4))
          (.guard (lt (v I 4) (ln (v (L (L I)) 8)))
           (.guard (le (c 0) (v I 0))
            (.guard (lt (v I 0) (ln (v (L (L I)) 7)))
             (.call f_impl_number [a (v (L V3) 5), a (v (L TR) 6), a (ix (v (L (L I)) 8) (v I 4))] 780
              (.guard (le (ln (ix (v (L (L I)) 7) (v I 0))) (c 549755813888))
               (.guard (le (ln (one (v I 780))) (c 549755813888))
                (.guard (le (c 0) (v I 0))
                 (.guard (lt (v I 0) (ln (v (L (L I)) 7)))
                  (.jump 0 [a (v I 0), a (v I 1), a (v I 2), a (v I 3), a (add (v I 4) (c 1)), a (v (L V3) 5), a (v (L TR) 6), a (st (v (L (L I)) 7) (v I 0) (app (ix (v (L (L I)) 7) (v I 0)) (one (v I 780)))), a (v (L (L I)) 8)]))))))))))
         (.jump 1 [a (v I 1), a (add (v I 2) (c 1)), a (v (L V3) 5), a (v (L TR) 6), a (v (L (L I)) 7)])))))
     (.ret [a (v (L (L I)) 4)])))))
def tr_impl_pasts : Tr := .guard (le (c 0) (ln (v (L (L I)) 0)))
 (.guard (le (ln (v (L (L I)) 0)) (c 549755813888))
  (.loop [a (v (L (L I)) 0), a (ln (v (L (L I)) 0)), a (c 0), a (rep (ln (v (L (L I)) 0)) (z (L I)))]
   (.ite (lt (v I 2) (v I 1))
    (.guard (le (c 0) (v I 2))
     (.guard (lt (v I 2) (ln (v (L (L I)) 0)))
      (.loop [a (v I 2), a (v (L (L I)) 0), a (v I 1), a (v I 2), a (ix (v (L (L I)) 0) (v I 2)), a (ln (ix (v (L (L I)) 0) (v I 2))), a (c 0), a (v (L (L I)) 3)]
       (.ite (lt (v I 6) (v I 5))
        (.guard (le (c 0) (v I 6))
         (.guard (lt (v I 6) (ln (v (L I) 4)))
          (.guard (le (c 0) (ix (v (L I) 4) (v I 6)))
           (.guard (lt (ix (v (L I) 4) (v I 6)) (ln (v (L (L I)) 7)))
            (.guard (le (ln (ix (v (L (L I)) 7) (ix (v (L I) 4) (v I 6)))) (c 549755813888))
             (.guard (le (ln (one (v I 0))) (c 549755813888))
              (.guard (le (c 0) (ix (v (L I) 4) (v I 6)))
               (.guard (lt (ix (v (L I) 4) (v I 6)) (ln (v (L (L I)) 7)))
                (.jump 0 [a (v I 0), a (v (L (L I)) 1), a (v I 2), a (v I 3), a (v (L I) 4), a (v I 5), a (add (v I 6) (c 1)), a (st (v (L (L I)) 7) (ix (v (L I) 4) (v I 6)) (app (ix (v (L (L I)) 7) (ix (v (L I) 4) (v I 6))) (one (v I 0))))])))))))))
        (.jump 1 [a (v (L (L I)) 1), a (v I 2), a (add (v I 3) (c 1)), a (v (L (L I)) 7)])))))
    (.ret [a (v (L (L I)) 3)]))))
def tr_impl_reach : Tr := .guard (le (c 0) (ln (v (L (L I)) 0)))
 (.guard (le (ln (v (L (L I)) 0)) (c 549755813888))
  (.guard (le (ln (v (L I) 1)) (c 549755813888))
   (.loop [a (v (L (L I)) 0), a (v (L I) 1), a (ln (v (L I) 1)), a (c 0), a (rep (ln (v (L (L I)) 0)) (z B)), a (v (L I) 1)]
    (.ite (lt (v I 3) (v I 2))
     (.guard (le (c 0) (v I 3))
      (.guard (lt (v I 3) (ln (v (L I) 1)))
       (.guard (le (c 0) (ix (v (L I) 1) (v I 3)))
        (.guard (lt (ix (v (L I) 1) (v I 3)) (ln (v (L B) 4)))
         (.jump 0 [a (v (L (L I)) 0), a (v (L I) 1), a (v I 2), a (add (v I 3) (c 1)), a (st (v (L B) 4) (ix (v (L I) 1) (v I 3)) (k true)), a (v (L I) 5)])))))
     (.loop [a (v (L (L I)) 0), a (v (L B) 4), a (v (L I) 5)]
      (.ite (gt (ln (v (L I) 2)) (c 0))
       (.guard (lt (c 0) (ln (v (L I) 2)))
        (.guard (le (c 1) (ln (v (L I) 2)))
         (.guard (le (c 0) (ix (v (L I) 2) (c 0)))
          (.guard (lt (ix (v (L I) 2) (c 0)) (ln (v (L (L I)) 0)))
           (.loop [a (v (L (L I)) 0), a (ix (v (L (L I)) 0) (ix (v (L I) 2) (c 0))), a (ln (ix (v (L (L I)) 0) (ix (v (L I) 2) (c 0)))), a (c 0), a (v (L B) 1), a (drop (v (L I) 2) (c 1))]
            (.ite (lt (v I 3) (v I 2))
             (.join
              (.guard (le (c 0) (v I 3))
               (.guard (lt (v I 3) (ln (v (L I) 1)))
                (.guard (le (c 0) (ix (v (L I) 1) (v I 3)))
                 (.guard (lt (ix (v (L I) 1) (v I 3)) (ln (v (L B) 4)))
                  (.ite (nt (ix (v (L B) 4) (ix (v (L I) 1) (v I 3))))
                   (.guard (le (c 0) (ix (v (L I) 1) (v I 3)))
                    (.guard (lt (ix (v (L I) 1) (v I 3)) (ln (v (L B) 4)))
                     (.guard (le (ln (v (L I) 5)) (c 549755813888))
                      (.guard (le (ln (one (ix (v (L I) 1) (v I 3)))) (c 549755813888))
                       (.jump 0 [a (v (L (L I)) 0), a (v (L I) 1), a (v I 2), a (v I 3), a (st (v (L B) 4) (ix (v (L I) 1) (v I 3)) (k true)), a (app (v (L I) 5) (one (ix (v (L I) 1) (v I 3))))])))))
                   (.jump 0 [a (v (L (L I)) 0), a (v (L I) 1), a (v I 2), a (v I 3), a (v (L B) 4), a (v (L I) 5)]))))))
              (.jump 0 [a (v (L (L I)) 0), a (v (L I) 1), a (v I 2), a (add (v I 3) (c 1)), a (v (L B) 4), a (v (L I) 5)]))
             (.jump 1 [a (v (L (L I)) 0), a (v (L B) 4), a (v (L I) 5)])))))))
       (.ret [a (v (L B) 1)])))))))
def tr_impl_listOf : Tr := .loop [a (v (L B) 0), a (ln (v (L B) 0)), a (c 0), a (nl I)]
 (.ite (lt (v I 2) (v I 1))
  (.join
   (.guard (le (c 0) (v I 2))
    (.guard (lt (v I 2) (ln (v (L B) 0)))
     (.ite (ix (v (L B) 0) (v I 2))
      (.guard (le (ln (v (L I) 3)) (c 549755813888))
       (.guard (le (ln (one (v I 2))) (c 549755813888))
        (.jump 0 [a (v (L B) 0), a (v I 1), a (v I 2), a (app (v (L I) 3) (one (v I 2)))])))
      (.jump 0 [a (v (L B) 0), a (v I 1), a (v I 2), a (v (L I) 3)]))))
   (.jump 0 [a (v (L B) 0), a (v I 1), a (add (v I 2) (c 1)), a (v (L I) 3)]))
  (.call f_impl_clone_int [a (v (L I) 3)] 133
   (.ret [a (v (L I) 133)])))
def tr_impl_CanReach : Tr := .call f_impl_SetValid [a (v (L V3) 0), a (v (L TR) 1), a (v (L I) 2)] 100256
 (.ite (nt (v B 100256))
  (.ret [a (nl I)])
  (.call f_impl_nexts [a (v (L V3) 0), a (v (L TR) 1)] 100448
   (.call f_impl_pasts [a (v (L (L I)) 100448)] 100512
    (.call f_impl_reach [a (v (L (L I)) 100512), a (v (L I) 2)] 100640
     (.call f_impl_listOf [a (v (L B) 100640)] 100704
      (.ret [a (v (L I) 100704)]))))))
def tr_laws_markVarS : Tr := .loop [a (v I 1), a (c 0), a (v (L V3) 0)]
 (.ite (lt (v I 1) (ln (v (L V3) 2)))
  (.guard (le (c 0) (v I 1))
   (.guard (lt (v I 1) (ln (v (L V3) 2)))
    (.guard (le (c 0) (v I 1))
     (.guard (lt (v I 1) (ln (st (v (L V3) 2) (v I 1) (pr (v I 0) (s (ix (v (L V3) 2) (v I 1)))))))
      (.guard (le (c 0) (v I 1))
       (.guard (lt (v I 1) (ln (st (st (v (L V3) 2) (v I 1) (pr (v I 0) (s (ix (v (L V3) 2) (v I 1))))) (v I 1) (pr (f (ix (st (v (L V3) 2) (v I 1) (pr (v I 0) (s (ix (v (L V3) 2) (v I 1))))) (v I 1))) (pr (add (v I 0) (c 1)) (s (s (ix (st (v (L V3) 2) (v I 1) (pr (v I 0) (s (ix (v (L V3) 2) (v I 1))))) (v I 1)))))))))
        (.jump 0 [a (add (add (add (v I 0) (c 1)) (c 1)) (c 1)), a (add (v I 1) (c 1)), a (st (st (st (v (L V3) 2) (v I 1) (pr (v I 0) (s (ix (v (L V3) 2) (v I 1))))) (v I 1) (pr (f (ix (st (v (L V3) 2) (v I 1) (pr (v I 0) (s (ix (v (L V3) 2) (v I 1))))) (v I 1))) (pr (add (v I 0) (c 1)) (s (s (ix (st (v (L V3) 2) (v I 1) (pr (v I 0) (s (ix (v (L V3) 2) (v I 1))))) (v I 1))))))) (v I 1) (pr (f (ix (st (st (v (L V3) 2) (v I 1) (pr (v I 0) (s (ix (v (L V3) 2) (v I 1))))) (v I 1) (pr (f (ix (st (v (L V3) 2) (v I 1) (pr (v I 0) (s (ix (v (L V3) 2) (v I 1))))) (v I 1))) (pr (add (v I 0) (c 1)) (s (s (ix (st (v (L V3) 2) (v I 1) (pr (v I 0) (s (ix (v (L V3) 2) (v I 1))))) (v I 1))))))) (v I 1))) (pr (f (s (ix (st (st (v (L V3) 2) (v I 1) (pr (v I 0) (s (ix (v (L V3) 2) (v I 1))))) (v I 1) (pr (f (ix (st (v (L V3) 2) (v I 1) (pr (v I 0) (s (ix (v (L V3) 2) (v I 1))))) (v I 1))) (pr (add (v I 0) (c 1)) (s (s (ix (st (v (L V3) 2) (v I 1) (pr (v I 0) (s (ix (v (L V3) 2) (v I 1))))) (v I 1))))))) (v I 1)))) (add (add (v I 0) (c 1)) (c 1)))))])))))))
  (.ret [a (v I 0), a (v (L V3) 2)]))
def tr_laws_markTermS : Tr := .loop [a (v I 1), a (c 0), a (v (L T4) 0)]
 (.ite (lt (v I 1) (ln (v (L T4) 2)))
  (.guard (le (c 0) (v I 1))
   (.guard (lt (v I 1) (ln (v (L T4) 2)))
    (.guard (le (c 0) (v I 1))
     (.guard (lt (v I 1) (ln (st (v (L T4) 2) (v I 1) (pr (v I 0) (s (ix (v (L T4) 2) (v I 1)))))))
      (.guard (le (c 0) (v I 1))
       (.guard (lt (v I 1) (ln (st (st (v (L T4) 2) (v I 1) (pr (v I 0) (s (ix (v (L T4) 2) (v I 1))))) (v I 1) (pr (f (ix (st (v (L T4) 2) (v I 1) (pr (v I 0) (s (ix (v (L T4) 2) (v I 1))))) (v I 1))) (pr (add (v I 0) (c 1)) (s (s (ix (st (v (L T4) 2) (v I 1) (pr (v I 0) (s (ix (v (L T4) 2) (v I 1))))) (v I 1)))))))))
        (.guard (le (c 0) (v I 1))
         (.guard (lt (v I 1) (ln (st (st (st (v (L T4) 2) (v I 1) (pr (v I 0) (s (ix (v (L T4) 2) (v I 1))))) (v I 1) (pr (f (ix (st (v (L T4) 2) (v I 1) (pr (v I 0) (s (ix (v (L T4) 2) (v I 1))))) (v I 1))) (pr (add (v I 0) (c 1)) (s (s (ix (st (v (L T4) 2) (v I 1) (pr (v I 0) (s (ix (v (L T4) 2) (v I 1))))) (v I 1))))))) (v I 1) (pr (f (ix (st (st (v (L T4) 2) (v I 1) (pr (v I 0) (s (ix (v (L T4) 2) (v I 1))))) (v I 1) (pr (f (ix (st (v (L T4) 2) (v I 1) (pr (v I 0) (s (ix (v (L T4) 2) (v I 1))))) (v I 1))) (pr (add (v I 0) (c 1)) (s (s (ix (st (v (L T4) 2) (v I 1) (pr (v I 0) (s (ix (v (L T4) 2) (v I 1))))) (v I 1))))))) (v I 1))) (pr (f (s (ix (st (st (v (L T4) 2) (v I 1) (pr (v I 0) (s (ix (v (L T4) 2) (v I 1))))) (v I 1) (pr (f (ix (st (v (L T4) 2) (v I 1) (pr (v I 0) (s (ix (v (L T4) 2) (v I 1))))) (v I 1))) (pr (add (v I 0) (c 1)) (s (s (ix (st (v (L T4) 2) (v I 1) (pr (v I 0) (s (ix (v (L T4) 2) (v I 1))))) (v I 1))))))) (v I 1)))) (pr (add (add (v I 0) (c 1)) (c 1)) (s (s (s (ix (st (st (v (L T4) 2) (v I 1) (pr (v I 0) (s (ix (v (L T4) 2) (v I 1))))) (v I 1) (pr (f (ix (st (v (L T4) 2) (v I 1) (pr (v I 0) (s (ix (v (L T4) 2) (v I 1))))) (v I 1))) (pr (add (v I 0) (c 1)) (s (s (ix (st (v (L T4) 2) (v I 1) (pr (v I 0) (s (ix (v (L T4) 2) (v I 1))))) (v I 1))))))) (v I 1)))))))))))
          (.jump 0 [a (add (add (add (add (v I 0) (c 1)) (c 1)) (c 1)) (c 1)), a (add (v I 1) (c 1)), a (st (st (st (st (v (L T4) 2) (v I 1) (pr (v I 0) (s (ix (v (L T4) 2) (v I 1))))) (v I 1) (pr (f (ix (st (v (L T4) 2) (v I 1) (pr (v I 0) (s (ix (v (L T4) 2) (v I 1))))) (v I 1))) (pr (add (v I 0) (c 1)) (s (s (ix (st (v (L T4) 2) (v I 1) (pr (v I 0) (s (ix (v (L T4) 2) (v I 1))))) (v I 1))))))) (v I 1) (pr (f (ix (st (st (v (L T4) 2) (v I 1) (pr (v I 0) (s (ix (v (L T4) 2) (v I 1))))) (v I 1) (pr (f (ix (st (v (L T4) 2) (v I 1) (pr (v I 0) (s (ix (v (L T4) 2) (v I 1))))) (v I 1))) (pr (add (v I 0) (c 1)) (s (s (ix (st (v (L T4) 2) (v I 1) (pr (v I 0) (s (ix (v (L T4) 2) (v I 1))))) (v I 1))))))) (v I 1))) (pr (f (s (ix (st (st (v (L T4) 2) (v I 1) (pr (v I 0) (s (ix (v (L T4) 2) (v I 1))))) (v I 1) (pr (f (ix (st (v (L T4) 2) (v I 1) (pr (v I 0) (s (ix (v (L T4) 2) (v I 1))))) (v I 1))) (pr (add (v I 0) (c 1)) (s (s (ix (st (v (L T4) 2) (v I 1) (pr (v I 0) (s (ix (v (L T4) 2) (v I 1))))) (v I 1))))))) (v I 1)))) (pr (add (add (v I 0) (c 1)) (c 1)) (s (s (s (ix (st (st (v (L T4) 2) (v I 1) (pr (v I 0) (s (ix (v (L T4) 2) (v I 1))))) (v I 1) (pr (f (ix (st (v (L T4) 2) (v I 1) (pr (v I 0) (s (ix (v (L T4) 2) (v I 1))))) (v I 1))) (pr (add (v I 0) (c 1)) (s (s (ix (st (v (L T4) 2) (v I 1) (pr (v I 0) (s (ix (v (L T4) 2) (v I 1))))) (v I 1))))))) (v I 1))))))))) (v I 1) (pr (f (ix (st (st (st (v (L T4) 2) (v I 1) (pr (v I 0) (s (ix (v (L T4) 2) (v I 1))))) (v I 1) (pr (f (ix (st (v (L T4) 2) (v I 1) (pr (v I 0) (s (ix (v (L T4) 2) (v I 1))))) (v I 1))) (pr (add (v I 0) (c 1)) (s (s (ix (st (v (L T4) 2) (v I 1) (pr (v I 0) (s (ix (v (L T4) 2) (v I 1))))) (v I 1))))))) (v I 1) (pr (f (ix (st (st (v (L T4) 2) (v I 1) (pr (v I 0) (s (ix (v (L T4) 2) (v I 1))))) (v I 1) (pr (f (ix (st (v (L T4) 2) (v I 1) (pr (v I 0) (s (ix (v (L T4) 2) (v I 1))))) (v I 1))) (pr (add (v I 0) (c 1)) (s (s (ix (st (v (L T4) 2) (v I 1) (pr (v I 0) (s (ix (v (L T4) 2) (v I 1))))) (v I 1))))))) (v I 1))) (pr (f (s (ix (st (st (v (L T4) 2) (v I 1) (pr (v I 0) (s (ix (v (L T4) 2) (v I 1))))) (v I 1) (pr (f (ix (st (v (L T4) 2) (v I 1) (pr (v I 0) (s (ix (v (L T4) 2) (v I 1))))) (v I 1))) (pr (add (v I 0) (c 1)) (s (s (ix (st (v (L T4) 2) (v I 1) (pr (v I 0) (s (ix (v (L T4) 2) (v I 1))))) (v I 1))))))) (v I 1)))) (pr (add (add (v I 0) (c 1)) (c 1)) (s (s (s (ix (st (st (v (L T4) 2) (v I 1) (pr (v I 0) (s (ix (v (L T4) 2) (v I 1))))) (v I 1) (pr (f (ix (st (v (L T4) 2) (v I 1) (pr (v I 0) (s (ix (v (L T4) 2) (v I 1))))) (v I 1))) (pr (add (v I 0) (c 1)) (s (s (ix (st (v (L T4) 2) (v I 1) (pr (v I 0) (s (ix (v (L T4) 2) (v I 1))))) (v I 1))))))) (v I 1))))))))) (v I 1))) (pr (f (s (ix (st (st (st (v (L T4) 2) (v I 1) (pr (v I 0) (s (ix (v (L T4) 2) (v I 1))))) (v I 1) (pr (f (ix (st (v (L T4) 2) (v I 1) (pr (v I 0) (s (ix (v (L T4) 2) (v I 1))))) (v I 1))) (pr (add (v I 0) (c 1)) (s (s (ix (st (v (L T4) 2) (v I 1) (pr (v I 0) (s (ix (v (L T4) 2) (v I 1))))) (v I 1))))))) (v I 1) (pr (f (ix (st (st (v (L T4) 2) (v I 1) (pr (v I 0) (s (ix (v (L T4) 2) (v I 1))))) (v I 1) (pr (f (ix (st (v (L T4) 2) (v I 1) (pr (v I 0) (s (ix (v (L T4) 2) (v I 1))))) (v I 1))) (pr (add (v I 0) (c 1)) (s (s (ix (st (v (L T4) 2) (v I 1) (pr (v I 0) (s (ix (v (L T4) 2) (v I 1))))) (v I 1))))))) (v I 1))) (pr (f (s (ix (st (st (v (L T4) 2) (v I 1) (pr (v I 0) (s (ix (v (L T4) 2) (v I 1))))) (v I 1) (pr (f (ix (st (v (L T4) 2) (v I 1) (pr (v I 0) (s (ix (v (L T4) 2) (v I 1))))) (v I 1))) (pr (add (v I 0) (c 1)) (s (s (ix (st (v (L T4) 2) (v I 1) (pr (v I 0) (s (ix (v (L T4) 2) (v I 1))))) (v I 1))))))) (v I 1)))) (pr (add (add (v I 0) (c 1)) (c 1)) (s (s (s (ix (st (st (v (L T4) 2) (v I 1) (pr (v I 0) (s (ix (v (L T4) 2) (v I 1))))) (v I 1) (pr (f (ix (st (v (L T4) 2) (v I 1) (pr (v I 0) (s (ix (v (L T4) 2) (v I 1))))) (v I 1))) (pr (add (v I 0) (c 1)) (s (s (ix (st (v (L T4) 2) (v I 1) (pr (v I 0) (s (ix (v (L T4) 2) (v I 1))))) (v I 1))))))) (v I 1))))))))) (v I 1)))) (pr (f (s (s (ix (st (st (st (v (L T4) 2) (v I 1) (pr (v I 0) (s (ix (v (L T4) 2) (v I 1))))) (v I 1) (pr (f (ix (st (v (L T4) 2) (v I 1) (pr (v I 0) (s (ix (v (L T4) 2) (v I 1))))) (v I 1))) (pr (add (v I 0) (c 1)) (s (s (ix (st (v (L T4) 2) (v I 1) (pr (v I 0) (s (ix (v (L T4) 2) (v I 1))))) (v I 1))))))) (v I 1) (pr (f (ix (st (st (v (L T4) 2) (v I 1) (pr (v I 0) (s (ix (v (L T4) 2) (v I 1))))) (v I 1) (pr (f (ix (st (v (L T4) 2) (v I 1) (pr (v I 0) (s (ix (v (L T4) 2) (v I 1))))) (v I 1))) (pr (add (v I 0) (c 1)) (s (s (ix (st (v (L T4) 2) (v I 1) (pr (v I 0) (s (ix (v (L T4) 2) (v I 1))))) (v I 1))))))) (v I 1))) (pr (f (s (ix (st (st (v (L T4) 2) (v I 1) (pr (v I 0) (s (ix (v (L T4) 2) (v I 1))))) (v I 1) (pr (f (ix (st (v (L T4) 2) (v I 1) (pr (v I 0) (s (ix (v (L T4) 2) (v I 1))))) (v I 1))) (pr (add (v I 0) (c 1)) (s (s (ix (st (v (L T4) 2) (v I 1) (pr (v I 0) (s (ix (v (L T4) 2) (v I 1))))) (v I 1))))))) (v I 1)))) (pr (add (add (v I 0) (c 1)) (c 1)) (s (s (s (ix (st (st (v (L T4) 2) (v I 1) (pr (v I 0) (s (ix (v (L T4) 2) (v I 1))))) (v I 1) (pr (f (ix (st (v (L T4) 2) (v I 1) (pr (v I 0) (s (ix (v (L T4) 2) (v I 1))))) (v I 1))) (pr (add (v I 0) (c 1)) (s (s (ix (st (v (L T4) 2) (v I 1) (pr (v I 0) (s (ix (v (L T4) 2) (v I 1))))) (v I 1))))))) (v I 1))))))))) (v I 1))))) (add (add (add (v I 0) (c 1)) (c 1)) (c 1))))))])))))))))
  (.ret [a (v I 0), a (v (L T4) 2)]))
end Go.Proofs.YthapopegchnhlaaGreat
namespace Go.Proofs.YthapopegchnhlaaGreat
open Go Go.Sm Go.Sm.Q
def tr_laws_markIntS : Tr := .loop [a (v I 1), a (c 0), a (v (L I) 0)]
 (.ite (lt (v I 1) (ln (v (L I) 2)))
  (.guard (le (c 0) (v I 1))
   (.guard (lt (v I 1) (ln (v (L I) 2)))
    (.jump 0 [a (add (v I 0) (c 1)), a (add (v I 1) (c 1)), a (st (v (L I) 2) (v I 1) (v I 0))])))
  (.ret [a (v I 0), a (v (L I) 2)]))
def tr_laws_markTermSS : Tr := .loop [a (v I 1), a (c 0), a (v (L (L T4)) 0)]
 (.ite (lt (v I 1) (ln (v (L (L T4)) 2)))
  (.guard (le (c 0) (v I 1))
   (.guard (lt (v I 1) (ln (v (L (L T4)) 2)))
    (.call f_laws_markTermS [a (ix (v (L (L T4)) 2) (v I 1)), a (v I 0)] 580
     (.jump 0 [a (v I 580), a (add (v I 1) (c 1)), a (st (v (L (L T4)) 2) (v I 1) (v (L T4) 581))]))))
  (.ret [a (v I 0), a (v (L (L T4)) 2)]))
def tr_laws_markRuleS : Tr := .loop [a (v I 1), a (c 0), a (v (L TR) 0)]
 (.ite (lt (v I 1) (ln (v (L TR) 2)))
  (.guard (le (c 0) (v I 1))
   (.guard (lt (v I 1) (ln (v (L TR) 2)))
    (.call f_laws_markTermS [a (f (ix (v (L TR) 2) (v I 1))), a (v I 0)] 644
     (.guard (le (c 0) (v I 1))
      (.guard (lt (v I 1) (ln (st (v (L TR) 2) (v I 1) (pr (v (L T4) 645) (s (ix (v (L TR) 2) (v I 1)))))))
       (.call f_laws_markIntS [a (f (s (ix (st (v (L TR) 2) (v I 1) (pr (v (L T4) 645) (s (ix (v (L TR) 2) (v I 1))))) (v I 1)))), a (v I 644)] 1156
        (.guard (le (c 0) (v I 1))
         (.guard (lt (v I 1) (ln (st (st (v (L TR) 2) (v I 1) (pr (v (L T4) 645) (s (ix (v (L TR) 2) (v I 1))))) (v I 1) (pr (f (ix (st (v (L TR) 2) (v I 1) (pr (v (L T4) 645) (s (ix (v (L TR) 2) (v I 1))))) (v I 1))) (pr (v (L I) 1157) (s (s (ix (st (v (L TR) 2) (v I 1) (pr (v (L T4) 645) (s (ix (v (L TR) 2) (v I 1))))) (v I 1)))))))))
          (.call f_laws_markTermSS [a (s (s (ix (st (st (v (L TR) 2) (v I 1) (pr (v (L T4) 645) (s (ix (v (L TR) 2) (v I 1))))) (v I 1) (pr (f (ix (st (v (L TR) 2) (v I 1) (pr (v (L T4) 645) (s (ix (v (L TR) 2) (v I 1))))) (v I 1))) (pr (v (L I) 1157) (s (s (ix (st (v (L TR) 2) (v I 1) (pr (v (L T4) 645) (s (ix (v (L TR) 2) (v I 1))))) (v I 1))))))) (v I 1)))), a (v I 1156)] 1668
           (.jump 0 [a (v I 1668), a (add (v I 1) (c 1)), a (st (st (st (v (L TR) 2) (v I 1) (pr (v (L T4) 645) (s (ix (v (L TR) 2) (v I 1))))) (v I 1) (pr (f (ix (st (v (L TR) 2) (v I 1) (pr (v (L T4) 645) (s (ix (v (L TR) 2) (v I 1))))) (v I 1))) (pr (v (L I) 1157) (s (s (ix (st (v (L TR) 2) (v I 1) (pr (v (L T4) 645) (s (ix (v (L TR) 2) (v I 1))))) (v I 1))))))) (v I 1) (pr (f (ix (st (st (v (L TR) 2) (v I 1) (pr (v (L T4) 645) (s (ix (v (L TR) 2) (v I 1))))) (v I 1) (pr (f (ix (st (v (L TR) 2) (v I 1) (pr (v (L T4) 645) (s (ix (v (L TR) 2) (v I 1))))) (v I 1))) (pr (v (L I) 1157) (s (s (ix (st (v (L TR) 2) (v I 1) (pr (v (L T4) 645) (s (ix (v (L TR) 2) (v I 1))))) (v I 1))))))) (v I 1))) (pr (f (s (ix (st (st (v (L TR) 2) (v I 1) (pr (v (L T4) 645) (s (ix (v (L TR) 2) (v I 1))))) (v I 1) (pr (f (ix (st (v (L TR) 2) (v I 1) (pr (v (L T4) 645) (s (ix (v (L TR) 2) (v I 1))))) (v I 1))) (pr (v (L I) 1157) (s (s (ix (st (v (L TR) 2) (v I 1) (pr (v (L T4) 645) (s (ix (v (L TR) 2) (v I 1))))) (v I 1))))))) (v I 1)))) (v (L (L T4)) 1669))))]))))))))))
  (.ret [a (v I 0), a (v (L TR) 2)]))
def tr_laws_markSystem : Tr := .call f_laws_markVarS [a (v (L V3) 0), a (v I 2)] 100320
 (.call f_laws_markRuleS [a (v (L TR) 1), a (v I 100320)] 100640
  (.ret [a (v I 100640), a (v (L V3) 100321), a (v (L TR) 100641)]))
def tr_laws_heldIntS : Tr := .loop [a (v (L I) 0), a (v I 1), a (c 0)]
 (.ite (lt (v I 2) (ln (v (L I) 0)))
  (.guard (le (c 0) (v I 2))
   (.guard (lt (v I 2) (ln (v (L I) 0)))
    (.ite (ne (ix (v (L I) 0) (v I 2)) (v I 1))
     (.ret [a (c (-1))])
     (.jump 0 [a (v (L I) 0), a (add (v I 1) (c 1)), a (add (v I 2) (c 1))]))))
  (.ret [a (v I 1)]))
def tr_laws_FnExactCanReach : Tr := .ite (gt (ln (v (L I) 2)) (c 1048576))
 (.ret [a (k true)])
 (.call f_laws_szSystem [a (v (L V3) 0), a (v (L TR) 1), a (c 1048576)] 100512
  (.ite (lt (v I 100512) (c 0))
   (.ret [a (k true)])
   (.call f_laws_toSystem [a (v (L V3) 0), a (v (L TR) 1)] 100832
    (.call f_laws_toIntS [a (v (L I) 2)] 100960
     (.call f_spec_CanReach [a (v (L V3) 100832), a (v (L TR) 100833), a (v (L I) 100960)] 101024
      (.call f_laws_toSystem [a (v (L V3) 0), a (v (L TR) 1)] 101216
       (.call f_laws_toIntS [a (v (L I) 2)] 101472
        (.call f_impl_CanReach [a (v (L V3) 101216), a (v (L TR) 101217), a (v (L I) 101472)] 101728
         (.call f_laws_eqIntS [a (v (L I) 101728), a (v (L I) 101024)] 101984
          (.ite (nt (v B 101984))
           (.ret [a (k false)])
           (.call f_laws_toSystem [a (v (L V3) 0), a (v (L TR) 1)] 102240
            (.call f_laws_eqSystem [a (v (L V3) 101216), a (v (L TR) 101217), a (v (L V3) 102240), a (v (L TR) 102241)] 102304
             (.ite (nt (v B 102304))
              (.ret [a (k false)])
              (.call f_laws_toIntS [a (v (L I) 2)] 102560
               (.call f_laws_eqIntS [a (v (L I) 101472), a (v (L I) 102560)] 102624
                (.ite (nt (v B 102624))
                 (.ret [a (k false)])
                 (.call f_laws_markSystem [a (v (L V3) 101216), a (v (L TR) 101217), a (c 1)] 102944
                  (.call f_laws_markIntS [a (v (L I) 101472), a (v I 102944)] 103200
                   (.ite (lt (v I 103200) (c 0))
                    (.ret [a (k false)])
                    (.call f_laws_eqIntS [a (v (L I) 101728), a (v (L I) 101024)] 103648
                     (.ite (nt (v B 103648))
                      (.ret [a (k false)])
                      (.call f_laws_markIntS [a (v (L I) 101728), a (c 1)] 104032
                       (.call f_laws_heldIntS [a (v (L I) 104033), a (c 1)] 104352
                        (.ite (lt (v I 104352) (c 0))
                         (.ret [a (k false)])
                         (.ite (ne (v I 104352) (v I 104032))
                          (.ret [a (k false)])
                          (.call f_laws_toSystem [a (v (L V3) 0), a (v (L TR) 1)] 104864
                           (.call f_laws_toIntS [a (v (L I) 2)] 104992
                            (.call f_impl_CanReach [a (v (L V3) 104864), a (v (L TR) 104865), a (v (L I) 104992)] 105056
                             (.call f_laws_eqIntS [a (v (L I) 105056), a (v (L I) 101024)] 105312
                              (.ite (nt (v B 105312))
                               (.ret [a (k false)])
                               (.call f_laws_heldIntS [a (v (L I) 104033), a (c 1)] 105632
                                (.ite (lt (v I 105632) (c 0))
                                 (.ret [a (k false)])
                                 (.ite (ne (v I 105632) (v I 104032))
                                  (.ret [a (k false)])
                                  (.ret [a (k true)]))))))))))))))))))))))))))))))))))
end Go.Proofs.YthapopegchnhlaaGreat
namespace Go.Proofs.YthapopegchnhlaaGreat
open Go Go.Sm Go.Sm.Q
set_option maxRecDepth 100000
def trL : List (Nat × Tr) := [
(f_laws_szVarS, tr_laws_szVarS),
(f_laws_szTermS, tr_laws_szTermS),
(f_laws_szIntS, tr_laws_szIntS),
(f_laws_szTermSS, tr_laws_szTermSS),
(f_laws_szRule, tr_laws_szRule),
(f_laws_szRuleS, tr_laws_szRuleS),
(f_laws_szSystem, tr_laws_szSystem),
(f_laws_toVar, tr_laws_toVar),
(f_laws_toVarS, tr_laws_toVarS),
(f_laws_toTerm, tr_laws_toTerm),
(f_laws_toTermS, tr_laws_toTermS),
(f_laws_toIntS, tr_laws_toIntS),
(f_laws_toTermSS, tr_laws_toTermSS),
(f_laws_toRule, tr_laws_toRule),
(f_laws_toRuleS, tr_laws_toRuleS),
(f_laws_toSystem, tr_laws_toSystem),
(f_spec_l1In, tr_spec_l1In),
(f_spec_l1One, tr_spec_l1One),
(f_spec_l1Kind, tr_spec_l1Kind),
(f_spec_KindsOf, tr_spec_KindsOf),
(f_spec_l2Is, tr_spec_l2Is),
(f_spec_l2Var, tr_spec_l2Var),
(f_spec_l2Rule, tr_spec_l2Rule),
(f_spec_SystemValid, tr_spec_SystemValid),
(f_spec_FirstState, tr_spec_FirstState),
(f_spec_l2Same, tr_spec_l2Same),
(f_spec_l2In, tr_spec_l2In),
(f_spec_l1Held, tr_spec_l1Held),
(f_spec_l1Truth, tr_spec_l1Truth),
(f_spec_l1Do, tr_spec_l1Do),
(f_spec_l1Values, tr_spec_l1Values),
(f_spec_l2Last, tr_spec_l2Last),
(f_spec_l2Use, tr_spec_l2Use),
(f_spec_l2Less, tr_spec_l2Less),
(f_spec_l2Put, tr_spec_l2Put),
(f_spec_l2Next, tr_spec_l2Next),
(f_impl_in, tr_impl_in),
(f_impl_varOk, tr_impl_varOk),
(f_impl_size, tr_impl_size),
(f_impl_parts, tr_impl_parts),
(f_impl_kindsOf, tr_impl_kindsOf),
(f_impl_kindOf, tr_impl_kindOf),
(f_impl_ruleOk, tr_impl_ruleOk),
(f_impl_SystemValid, tr_impl_SystemValid),
(f_impl_inRange, tr_impl_inRange),
(f_impl_clone_int, tr_impl_clone_int),
(f_impl_held, tr_impl_held),
(f_impl_bit, tr_impl_bit),
(f_impl_do, tr_impl_do),
(f_impl_eval, tr_impl_eval),
(f_impl_use, tr_impl_use),
(f_laws_eqVar, tr_laws_eqVar),
(f_laws_eqVarS, tr_laws_eqVarS),
(f_laws_eqTerm, tr_laws_eqTerm),
(f_laws_eqTermS, tr_laws_eqTermS),
(f_laws_eqIntS, tr_laws_eqIntS),
(f_laws_eqTermSS, tr_laws_eqTermSS),
(f_laws_eqRule, tr_laws_eqRule),
(f_laws_eqRuleS, tr_laws_eqRuleS),
(f_laws_eqSystem, tr_laws_eqSystem),
(f_cmp_isNaN_int, tr_cmp_isNaN_int),
(f_spec_l2Has, tr_spec_l2Has),
(f_spec_SizeOf, tr_spec_SizeOf),
(f_impl_stateAt, tr_impl_stateAt),
(f_spec_SetValid, tr_spec_SetValid),
(f_spec_l3Copy, tr_spec_l3Copy),
(f_spec_l4State, tr_spec_l4State),
(f_spec_l4Number, tr_spec_l4Number),
(f_spec_l4Steps, tr_spec_l4Steps),
(f_spec_l5Turned, tr_spec_l5Turned),
(f_spec_l4Marks, tr_spec_l4Marks),
(f_spec_l5Steps, tr_spec_l5Steps),
(f_spec_l5Told, tr_spec_l5Told),
(f_spec_l4List, tr_spec_l4List),
(f_spec_CanReach, tr_spec_CanReach),
(f_impl_setOk, tr_impl_setOk),
(f_impl_SetValid, tr_impl_SetValid),
(f_cmp_Compare_int, tr_cmp_Compare_int),
(f_slices_Compare_Sint_int, tr_slices_Compare_Sint_int),
(f_slices_Reverse_SSint_Sint, tr_slices_Reverse_SSint_Sint),
(f_impl_clone_Sint, tr_impl_clone_Sint),
(f_impl_nextStates, tr_impl_nextStates),
(f_impl_number, tr_impl_number),
(f_impl_nexts, tr_impl_nexts),
(f_impl_pasts, tr_impl_pasts),
(f_impl_reach, tr_impl_reach),
(f_impl_listOf, tr_impl_listOf),
(f_impl_CanReach, tr_impl_CanReach),
(f_laws_markVarS, tr_laws_markVarS),
(f_laws_markTermS, tr_laws_markTermS),
(f_laws_markIntS, tr_laws_markIntS),
(f_laws_markTermSS, tr_laws_markTermSS),
(f_laws_markRuleS, tr_laws_markRuleS),
(f_laws_markSystem, tr_laws_markSystem),
(f_laws_heldIntS, tr_laws_heldIntS),
(f_laws_FnExactCanReach, tr_laws_FnExactCanReach)]
def haL : List Nat := []
def mc : Mc := ⟨fun f => (trL.find? (·.1 == f)).map (·.2), fun f ins => if haL.contains f then some ins else none⟩
theorem F_laws_szVarS : mc.F f_laws_szVarS = some tr_laws_szVarS := rfl
theorem F_laws_szTermS : mc.F f_laws_szTermS = some tr_laws_szTermS := rfl
theorem F_laws_szIntS : mc.F f_laws_szIntS = some tr_laws_szIntS := rfl
theorem F_laws_szTermSS : mc.F f_laws_szTermSS = some tr_laws_szTermSS := rfl
theorem F_laws_szRule : mc.F f_laws_szRule = some tr_laws_szRule := rfl
theorem F_laws_szRuleS : mc.F f_laws_szRuleS = some tr_laws_szRuleS := rfl
theorem F_laws_szSystem : mc.F f_laws_szSystem = some tr_laws_szSystem := rfl
theorem F_laws_toVar : mc.F f_laws_toVar = some tr_laws_toVar := rfl
theorem F_laws_toVarS : mc.F f_laws_toVarS = some tr_laws_toVarS := rfl
theorem F_laws_toTerm : mc.F f_laws_toTerm = some tr_laws_toTerm := rfl
theorem F_laws_toTermS : mc.F f_laws_toTermS = some tr_laws_toTermS := rfl
theorem F_laws_toIntS : mc.F f_laws_toIntS = some tr_laws_toIntS := rfl
theorem F_laws_toTermSS : mc.F f_laws_toTermSS = some tr_laws_toTermSS := rfl
theorem F_laws_toRule : mc.F f_laws_toRule = some tr_laws_toRule := rfl
theorem F_laws_toRuleS : mc.F f_laws_toRuleS = some tr_laws_toRuleS := rfl
theorem F_laws_toSystem : mc.F f_laws_toSystem = some tr_laws_toSystem := rfl
theorem F_spec_l1In : mc.F f_spec_l1In = some tr_spec_l1In := rfl
theorem F_spec_l1One : mc.F f_spec_l1One = some tr_spec_l1One := rfl
theorem F_spec_l1Kind : mc.F f_spec_l1Kind = some tr_spec_l1Kind := rfl
theorem F_spec_KindsOf : mc.F f_spec_KindsOf = some tr_spec_KindsOf := rfl
theorem F_spec_l2Is : mc.F f_spec_l2Is = some tr_spec_l2Is := rfl
theorem F_spec_l2Var : mc.F f_spec_l2Var = some tr_spec_l2Var := rfl
theorem F_spec_l2Rule : mc.F f_spec_l2Rule = some tr_spec_l2Rule := rfl
theorem F_spec_SystemValid : mc.F f_spec_SystemValid = some tr_spec_SystemValid := rfl
theorem F_spec_FirstState : mc.F f_spec_FirstState = some tr_spec_FirstState := rfl
theorem F_spec_l2Same : mc.F f_spec_l2Same = some tr_spec_l2Same := rfl
theorem F_spec_l2In : mc.F f_spec_l2In = some tr_spec_l2In := rfl
theorem F_spec_l1Held : mc.F f_spec_l1Held = some tr_spec_l1Held := rfl
theorem F_spec_l1Truth : mc.F f_spec_l1Truth = some tr_spec_l1Truth := rfl
theorem F_spec_l1Do : mc.F f_spec_l1Do = some tr_spec_l1Do := rfl
theorem F_spec_l1Values : mc.F f_spec_l1Values = some tr_spec_l1Values := rfl
theorem F_spec_l2Last : mc.F f_spec_l2Last = some tr_spec_l2Last := rfl
theorem F_spec_l2Use : mc.F f_spec_l2Use = some tr_spec_l2Use := rfl
theorem F_spec_l2Less : mc.F f_spec_l2Less = some tr_spec_l2Less := rfl
theorem F_spec_l2Put : mc.F f_spec_l2Put = some tr_spec_l2Put := rfl
theorem F_spec_l2Next : mc.F f_spec_l2Next = some tr_spec_l2Next := rfl
theorem F_impl_in : mc.F f_impl_in = some tr_impl_in := rfl
theorem F_impl_varOk : mc.F f_impl_varOk = some tr_impl_varOk := rfl
theorem F_impl_size : mc.F f_impl_size = some tr_impl_size := rfl
theorem F_impl_parts : mc.F f_impl_parts = some tr_impl_parts := rfl
theorem F_impl_kindsOf : mc.F f_impl_kindsOf = some tr_impl_kindsOf := rfl
theorem F_impl_kindOf : mc.F f_impl_kindOf = some tr_impl_kindOf := rfl
theorem F_impl_ruleOk : mc.F f_impl_ruleOk = some tr_impl_ruleOk := rfl
theorem F_impl_SystemValid : mc.F f_impl_SystemValid = some tr_impl_SystemValid := rfl
theorem F_impl_inRange : mc.F f_impl_inRange = some tr_impl_inRange := rfl
theorem F_impl_clone_int : mc.F f_impl_clone_int = some tr_impl_clone_int := rfl
theorem F_impl_held : mc.F f_impl_held = some tr_impl_held := rfl
theorem F_impl_bit : mc.F f_impl_bit = some tr_impl_bit := rfl
theorem F_impl_do : mc.F f_impl_do = some tr_impl_do := rfl
theorem F_impl_eval : mc.F f_impl_eval = some tr_impl_eval := rfl
theorem F_impl_use : mc.F f_impl_use = some tr_impl_use := rfl
theorem F_laws_eqVar : mc.F f_laws_eqVar = some tr_laws_eqVar := rfl
theorem F_laws_eqVarS : mc.F f_laws_eqVarS = some tr_laws_eqVarS := rfl
theorem F_laws_eqTerm : mc.F f_laws_eqTerm = some tr_laws_eqTerm := rfl
theorem F_laws_eqTermS : mc.F f_laws_eqTermS = some tr_laws_eqTermS := rfl
theorem F_laws_eqIntS : mc.F f_laws_eqIntS = some tr_laws_eqIntS := rfl
theorem F_laws_eqTermSS : mc.F f_laws_eqTermSS = some tr_laws_eqTermSS := rfl
theorem F_laws_eqRule : mc.F f_laws_eqRule = some tr_laws_eqRule := rfl
theorem F_laws_eqRuleS : mc.F f_laws_eqRuleS = some tr_laws_eqRuleS := rfl
theorem F_laws_eqSystem : mc.F f_laws_eqSystem = some tr_laws_eqSystem := rfl
theorem F_cmp_isNaN_int : mc.F f_cmp_isNaN_int = some tr_cmp_isNaN_int := rfl
theorem F_spec_l2Has : mc.F f_spec_l2Has = some tr_spec_l2Has := rfl
theorem F_spec_SizeOf : mc.F f_spec_SizeOf = some tr_spec_SizeOf := rfl
theorem F_impl_stateAt : mc.F f_impl_stateAt = some tr_impl_stateAt := rfl
theorem F_spec_SetValid : mc.F f_spec_SetValid = some tr_spec_SetValid := rfl
theorem F_spec_l3Copy : mc.F f_spec_l3Copy = some tr_spec_l3Copy := rfl
theorem F_spec_l4State : mc.F f_spec_l4State = some tr_spec_l4State := rfl
theorem F_spec_l4Number : mc.F f_spec_l4Number = some tr_spec_l4Number := rfl
theorem F_spec_l4Steps : mc.F f_spec_l4Steps = some tr_spec_l4Steps := rfl
theorem F_spec_l5Turned : mc.F f_spec_l5Turned = some tr_spec_l5Turned := rfl
theorem F_spec_l4Marks : mc.F f_spec_l4Marks = some tr_spec_l4Marks := rfl
theorem F_spec_l5Steps : mc.F f_spec_l5Steps = some tr_spec_l5Steps := rfl
theorem F_spec_l5Told : mc.F f_spec_l5Told = some tr_spec_l5Told := rfl
theorem F_spec_l4List : mc.F f_spec_l4List = some tr_spec_l4List := rfl
theorem F_spec_CanReach : mc.F f_spec_CanReach = some tr_spec_CanReach := rfl
theorem F_impl_setOk : mc.F f_impl_setOk = some tr_impl_setOk := rfl
theorem F_impl_SetValid : mc.F f_impl_SetValid = some tr_impl_SetValid := rfl
theorem F_cmp_Compare_int : mc.F f_cmp_Compare_int = some tr_cmp_Compare_int := rfl
theorem F_slices_Compare_Sint_int : mc.F f_slices_Compare_Sint_int = some tr_slices_Compare_Sint_int := rfl
theorem F_slices_Reverse_SSint_Sint : mc.F f_slices_Reverse_SSint_Sint = some tr_slices_Reverse_SSint_Sint := rfl
theorem F_impl_clone_Sint : mc.F f_impl_clone_Sint = some tr_impl_clone_Sint := rfl
theorem F_impl_nextStates : mc.F f_impl_nextStates = some tr_impl_nextStates := rfl
theorem F_impl_number : mc.F f_impl_number = some tr_impl_number := rfl
theorem F_impl_nexts : mc.F f_impl_nexts = some tr_impl_nexts := rfl
theorem F_impl_pasts : mc.F f_impl_pasts = some tr_impl_pasts := rfl
theorem F_impl_reach : mc.F f_impl_reach = some tr_impl_reach := rfl
theorem F_impl_listOf : mc.F f_impl_listOf = some tr_impl_listOf := rfl
theorem F_impl_CanReach : mc.F f_impl_CanReach = some tr_impl_CanReach := rfl
theorem F_laws_markVarS : mc.F f_laws_markVarS = some tr_laws_markVarS := rfl
theorem F_laws_markTermS : mc.F f_laws_markTermS = some tr_laws_markTermS := rfl
theorem F_laws_markIntS : mc.F f_laws_markIntS = some tr_laws_markIntS := rfl
theorem F_laws_markTermSS : mc.F f_laws_markTermSS = some tr_laws_markTermSS := rfl
theorem F_laws_markRuleS : mc.F f_laws_markRuleS = some tr_laws_markRuleS := rfl
theorem F_laws_markSystem : mc.F f_laws_markSystem = some tr_laws_markSystem := rfl
theorem F_laws_heldIntS : mc.F f_laws_heldIntS = some tr_laws_heldIntS := rfl
theorem F_laws_FnExactCanReach : mc.F f_laws_FnExactCanReach = some tr_laws_FnExactCanReach := rfl
end Go.Proofs.YthapopegchnhlaaGreat
