/- What the functions of the law come to, as trees; printed by a program; no condition. -/
import Derived.Test.YthapopegchnhlaaGreatSmLib4
namespace Go.Proofs.YthapopegchnhlaaGreat
open Go Go.Sm Go.Sm.Q
abbrev f_laws_szVarS : Nat := 49
abbrev f_laws_szTermS : Nat := 51
abbrev f_laws_szIntS : Nat := 52
abbrev f_laws_szTermSS : Nat := 10
abbrev f_laws_szRule : Nat := 119
abbrev f_laws_szRuleS : Nat := 50
abbrev f_laws_szSystem : Nat := 9
abbrev f_laws_szTimeS : Nat := 11
abbrev f_laws_szIntSS : Nat := 12
abbrev f_laws_toVar : Nat := 123
abbrev f_laws_toVarS : Nat := 56
abbrev f_laws_toTerm : Nat := 125
abbrev f_laws_toTermS : Nat := 58
abbrev f_laws_toIntS : Nat := 34
abbrev f_laws_toTermSS : Nat := 15
abbrev f_laws_toRule : Nat := 124
abbrev f_laws_toRuleS : Nat := 57
abbrev f_laws_toSystem : Nat := 14
abbrev f_laws_toTime : Nat := 59
abbrev f_laws_toTimeS : Nat := 16
abbrev f_laws_toIntSS : Nat := 17
abbrev f_spec_l1In : Nat := 73
abbrev f_spec_l1One : Nat := 217
abbrev f_spec_l1Kind : Nat := 208
abbrev f_spec_KindsOf : Nat := 174
abbrev f_spec_l2Is : Nat := 120
abbrev f_spec_l2Var : Nat := 146
abbrev f_spec_l2Rule : Nat := 147
abbrev f_spec_SystemValid : Nat := 72
abbrev f_spec_l20Facts : Nat := 53
abbrev f_spec_l3At : Nat := 104
abbrev f_spec_FirstState : Nat := 105
abbrev f_spec_l2Same : Nat := 103
abbrev f_spec_l2In : Nat := 106
abbrev f_spec_l1Held : Nat := 234
abbrev f_spec_l1Truth : Nat := 213
abbrev f_spec_l1Do : Nat := 209
abbrev f_spec_l1Values : Nat := 175
abbrev f_spec_l2Last : Nat := 121
abbrev f_spec_l2Use : Nat := 170
abbrev f_spec_l2Less : Nat := 225
abbrev f_spec_l2Put : Nat := 193
abbrev f_spec_l2Next : Nat := 152
abbrev f_spec_l3Follows : Nat := 107
abbrev f_spec_LassoValid : Nat := 42
abbrev f_spec_l20Of : Nat := 54
abbrev f_spec_l20One : Nat := 203
abbrev f_spec_l20Step : Nat := 210
abbrev f_spec_TimesValid : Nat := 176
abbrev f_spec_l6Are : Nat := 235
abbrev f_spec_l20Letters : Nat := 211
abbrev f_spec_WordValid : Nat := 177
abbrev f_spec_l20Next : Nat := 214
abbrev f_spec_l20Later : Nat := 212
abbrev f_spec_l20Row : Nat := 178
abbrev f_spec_TimesOn : Nat := 122
abbrev f_spec_HoldsOn : Nat := 55
abbrev f_spec_HoldsOnRun : Nat := 13
abbrev f_impl_in : Nat := 70
abbrev f_impl_varOk : Nat := 140
abbrev f_impl_size : Nat := 75
abbrev f_impl_parts : Nat := 215
abbrev f_impl_kindsOf : Nat := 180
abbrev f_impl_kindOf : Nat := 128
abbrev f_impl_ruleOk : Nat := 143
abbrev f_impl_SystemValid : Nat := 69
abbrev f_impl_factsOk : Nat := 60
abbrev f_impl_lassoOk : Nat := 98
abbrev f_slices_Concat_SSint_Sint : Nat := 99
abbrev f_impl_inRange : Nat := 100
abbrev f_impl_clone_int : Nat := 108
abbrev f_impl_first : Nat := 101
abbrev f_slices_Equal_Sint_int : Nat := 79
abbrev f_impl_held : Nat := 223
abbrev f_impl_bit : Nat := 224
abbrev f_impl_do : Nat := 192
abbrev f_impl_eval : Nat := 150
abbrev f_impl_use : Nat := 78
abbrev f_impl_usableIn : Nat := 116
abbrev f_impl_ruleBetween : Nat := 168
abbrev f_impl_follows : Nat := 102
abbrev f_impl_LassoValid : Nat := 41
abbrev f_impl_TimesValid : Nat := 61
abbrev f_impl_letters : Nat := 109
abbrev f_impl_word : Nat := 63
abbrev f_impl_timesOn : Nat := 62
abbrev f_impl_HoldsOnRun : Nat := 18
abbrev f_laws_eqVar : Nat := 131
abbrev f_laws_eqVarS : Nat := 64
abbrev f_laws_eqTerm : Nat := 133
abbrev f_laws_eqTermS : Nat := 66
abbrev f_laws_eqIntS : Nat := 36
abbrev f_laws_eqTermSS : Nat := 20
abbrev f_laws_eqRule : Nat := 132
abbrev f_laws_eqRuleS : Nat := 65
abbrev f_laws_eqSystem : Nat := 19
abbrev f_laws_eqTime : Nat := 67
abbrev f_laws_eqTimeS : Nat := 21
abbrev f_laws_eqIntSS : Nat := 22
abbrev f_laws_FnExactHoldsOnRun : Nat := 3
abbrev f_slices_Grow_SSint_Sint : Nat := 167
def tr_laws_szVarS : Tr := .ite (lt (sub (v I 1) (ln (v (L V3) 0))) (c 0))
 (.ret [a (c (-1))])
 (.ret [a (sub (v I 1) (ln (v (L V3) 0)))])
def tr_laws_szTermS : Tr := .ite (lt (sub (v I 1) (ln (v (L T4) 0))) (c 0))
 (.ret [a (c (-1))])
 (.ret [a (sub (v I 1) (ln (v (L T4) 0)))])
def tr_laws_szIntS : Tr := .ite (lt (sub (v I 1) (ln (v (L I) 0))) (c 0))
 (.ret [a (c (-1))])
 (.ret [a (sub (v I 1) (ln (v (L I) 0)))])
def tr_laws_szTermSS : Tr := .ite (lt (sub (v I 1) (ln (v (L (L T4)) 0))) (c 0))
 (.ret [a (c (-1))])
 (.loop [a (v (L (L T4)) 0), a (sub (v I 1) (ln (v (L (L T4)) 0))), a (c 0)]
  (.ite (lt (v I 2) (ln (v (L (L T4)) 0)))
   (.guard (le (c 0) (v I 2))
    (.guard (lt (v I 2) (ln (v (L (L T4)) 0)))
     (.call f_laws_szTermS [a (ix (v (L (L T4)) 0) (v I 2)), a (v I 1)] 579
      (.ite (lt (v I 579) (c 0))
       (.ret [a (c (-1))])
       (.jump 0 [a (v (L (L T4)) 0), a (v I 579), a (add (v I 2) (c 1))])))))
   (.ret [a (v I 1)])))
def tr_laws_szRule : Tr := .call f_laws_szTermS [a (v (L T4) 0), a (v I 3)] 100320
 (.ite (lt (v I 100320) (c 0))
  (.ret [a (c (-1))])
  (.call f_laws_szIntS [a (v (L I) 1), a (v I 100320)] 100768
   (.ite (lt (v I 100768) (c 0))
    (.ret [a (c (-1))])
    (.call f_laws_szTermSS [a (v (L (L T4)) 2), a (v I 100768)] 101216
     (.ite (lt (v I 101216) (c 0))
      (.ret [a (c (-1))])
      (.ret [a (v I 101216)]))))))
def tr_laws_szRuleS : Tr := .ite (lt (sub (v I 1) (ln (v (L TR) 0))) (c 0))
 (.ret [a (c (-1))])
 (.loop [a (v (L TR) 0), a (sub (v I 1) (ln (v (L TR) 0))), a (c 0)]
  (.ite (lt (v I 2) (ln (v (L TR) 0)))
   (.guard (le (c 0) (v I 2))
    (.guard (lt (v I 2) (ln (v (L TR) 0)))
     (.call f_laws_szRule [a (f (ix (v (L TR) 0) (v I 2))), a (f (s (ix (v (L TR) 0) (v I 2)))), a (s (s (ix (v (L TR) 0) (v I 2)))), a (v I 1)] 579
      (.ite (lt (v I 579) (c 0))
       (.ret [a (c (-1))])
       (.jump 0 [a (v (L TR) 0), a (v I 579), a (add (v I 2) (c 1))])))))
   (.ret [a (v I 1)])))
def tr_laws_szSystem : Tr := .call f_laws_szVarS [a (v (L V3) 0), a (v I 2)] 100320
 (.ite (lt (v I 100320) (c 0))
  (.ret [a (c (-1))])
  (.call f_laws_szRuleS [a (v (L TR) 1), a (v I 100320)] 100768
   (.ite (lt (v I 100768) (c 0))
    (.ret [a (c (-1))])
    (.ret [a (v I 100768)]))))
def tr_laws_szTimeS : Tr := .ite (lt (sub (v I 1) (ln (v (L T4) 0))) (c 0))
 (.ret [a (c (-1))])
 (.ret [a (sub (v I 1) (ln (v (L T4) 0)))])
def tr_laws_szIntSS : Tr := .ite (lt (sub (v I 1) (ln (v (L (L I)) 0))) (c 0))
 (.ret [a (c (-1))])
 (.loop [a (v (L (L I)) 0), a (sub (v I 1) (ln (v (L (L I)) 0))), a (c 0)]
  (.ite (lt (v I 2) (ln (v (L (L I)) 0)))
   (.guard (le (c 0) (v I 2))
    (.guard (lt (v I 2) (ln (v (L (L I)) 0)))
     (.call f_laws_szIntS [a (ix (v (L (L I)) 0) (v I 2)), a (v I 1)] 579
      (.ite (lt (v I 579) (c 0))
       (.ret [a (c (-1))])
       (.jump 0 [a (v (L (L I)) 0), a (v I 579), a (add (v I 2) (c 1))])))))
   (.ret [a (v I 1)])))
def tr_laws_toVar : Tr := .ret [a (v I 0), a (v I 1), a (v I 2)]
def tr_laws_toVarS : Tr := .guard (le (c 0) (ln (v (L V3) 0)))
 (.guard (le (ln (v (L V3) 0)) (c 549755813888))
  (.loop [a (v (L V3) 0), a (c 0), a (rep (ln (v (L V3) 0)) (z V3))]
   (.ite (lt (v I 1) (ln (v (L V3) 0)))
    (.guard (le (c 0) (v I 1))
     (.guard (lt (v I 1) (ln (v (L V3) 0)))
      (.call f_laws_toVar [a (f (ix (v (L V3) 0) (v I 1))), a (f (s (ix (v (L V3) 0) (v I 1)))), a (s (s (ix (v (L V3) 0) (v I 1))))] 644
       (.guard (le (c 0) (v I 1))
        (.guard (lt (v I 1) (ln (v (L V3) 2)))
         (.jump 0 [a (v (L V3) 0), a (add (v I 1) (c 1)), a (st (v (L V3) 2) (v I 1) (pr (v I 644) (pr (v I 645) (v I 646))))]))))))
    (.ret [a (v (L V3) 2)]))))
def tr_laws_toTerm : Tr := .ret [a (v I 0), a (v I 1), a (v I 2), a (v I 3)]
def tr_laws_toTermS : Tr := .guard (le (c 0) (ln (v (L T4) 0)))
 (.guard (le (ln (v (L T4) 0)) (c 549755813888))
  (.loop [a (v (L T4) 0), a (c 0), a (rep (ln (v (L T4) 0)) (z T4))]
   (.ite (lt (v I 1) (ln (v (L T4) 0)))
    (.guard (le (c 0) (v I 1))
     (.guard (lt (v I 1) (ln (v (L T4) 0)))
      (.call f_laws_toTerm [a (f (ix (v (L T4) 0) (v I 1))), a (f (s (ix (v (L T4) 0) (v I 1)))), a (f (s (s (ix (v (L T4) 0) (v I 1))))), a (s (s (s (ix (v (L T4) 0) (v I 1)))))] 644
       (.guard (le (c 0) (v I 1))
        (.guard (lt (v I 1) (ln (v (L T4) 2)))
         (.jump 0 [a (v (L T4) 0), a (add (v I 1) (c 1)), a (st (v (L T4) 2) (v I 1) (pr (v I 644) (pr (v I 645) (pr (v I 646) (v I 647)))))]))))))
    (.ret [a (v (L T4) 2)]))))
def tr_laws_toIntS : Tr := .guard (le (c 0) (ln (v (L I) 0)))
 (.guard (le (ln (v (L I) 0)) (c 549755813888))
  (.loop [a (v (L I) 0), a (c 0), a (rep (ln (v (L I) 0)) (z I))]
   (.ite (lt (v I 1) (ln (v (L I) 0)))
    (.guard (le (c 0) (v I 1))
     (.guard (lt (v I 1) (ln (v (L I) 0)))
      (.guard (le (c 0) (v I 1))
       (.guard (lt (v I 1) (ln (v (L I) 2)))
        (.jump 0 [a (v (L I) 0), a (add (v I 1) (c 1)), a (st (v (L I) 2) (v I 1) (ix (v (L I) 0) (v I 1)))])))))
    (.ret [a (v (L I) 2)]))))
def tr_laws_toTermSS : Tr := .guard (le (c 0) (ln (v (L (L T4)) 0)))
 (.guard (le (ln (v (L (L T4)) 0)) (c 549755813888))
  (.loop [a (v (L (L T4)) 0), a (c 0), a (rep (ln (v (L (L T4)) 0)) (z (L T4)))]
   (.ite (lt (v I 1) (ln (v (L (L T4)) 0)))
    (.guard (le (c 0) (v I 1))
     (.guard (lt (v I 1) (ln (v (L (L T4)) 0)))
      (.call f_laws_toTermS [a (ix (v (L (L T4)) 0) (v I 1))] 644
       (.guard (le (c 0) (v I 1))
        (.guard (lt (v I 1) (ln (v (L (L T4)) 2)))
         (.jump 0 [a (v (L (L T4)) 0), a (add (v I 1) (c 1)), a (st (v (L (L T4)) 2) (v I 1) (v (L T4) 644))]))))))
    (.ret [a (v (L (L T4)) 2)]))))
def tr_laws_toRule : Tr := .call f_laws_toTermS [a (v (L T4) 0)] 100320
 (.call f_laws_toIntS [a (v (L I) 1)] 100640
  (.call f_laws_toTermSS [a (v (L (L T4)) 2)] 100960
   (.ret [a (v (L T4) 100320), a (v (L I) 100640), a (v (L (L T4)) 100960)])))
def tr_laws_toRuleS : Tr := .guard (le (c 0) (ln (v (L TR) 0)))
 (.guard (le (ln (v (L TR) 0)) (c 549755813888))
  (.loop [a (v (L TR) 0), a (c 0), a (rep (ln (v (L TR) 0)) (z TR))]
   (.ite (lt (v I 1) (ln (v (L TR) 0)))
    (.guard (le (c 0) (v I 1))
     (.guard (lt (v I 1) (ln (v (L TR) 0)))
      (.call f_laws_toRule [a (f (ix (v (L TR) 0) (v I 1))), a (f (s (ix (v (L TR) 0) (v I 1)))), a (s (s (ix (v (L TR) 0) (v I 1))))] 644
       (.guard (le (c 0) (v I 1))
        (.guard (lt (v I 1) (ln (v (L TR) 2)))
         (.jump 0 [a (v (L TR) 0), a (add (v I 1) (c 1)), a (st (v (L TR) 2) (v I 1) (pr (v (L T4) 644) (pr (v (L I) 645) (v (L (L T4)) 646))))]))))))
    (.ret [a (v (L TR) 2)]))))
def tr_laws_toSystem : Tr := .call f_laws_toVarS [a (v (L V3) 0)] 100320
 (.call f_laws_toRuleS [a (v (L TR) 1)] 100640
  (.ret [a (v (L V3) 100320), a (v (L TR) 100640)]))
def tr_laws_toTime : Tr := .ret [a (v I 0), a (v I 1), a (v I 2), a (v I 3)]
def tr_laws_toTimeS : Tr := .guard (le (c 0) (ln (v (L T4) 0)))
 (.guard (le (ln (v (L T4) 0)) (c 549755813888))
  (.loop [a (v (L T4) 0), a (c 0), a (rep (ln (v (L T4) 0)) (z T4))]
   (.ite (lt (v I 1) (ln (v (L T4) 0)))
    (.guard (le (c 0) (v I 1))
     (.guard (lt (v I 1) (ln (v (L T4) 0)))
      (.call f_laws_toTime [a (f (ix (v (L T4) 0) (v I 1))), a (f (s (ix (v (L T4) 0) (v I 1)))), a (f (s (s (ix (v (L T4) 0) (v I 1))))), a (s (s (s (ix (v (L T4) 0) (v I 1)))))] 644
       (.guard (le (c 0) (v I 1))
        (.guard (lt (v I 1) (ln (v (L T4) 2)))
         (.jump 0 [a (v (L T4) 0), a (add (v I 1) (c 1)), a (st (v (L T4) 2) (v I 1) (pr (v I 644) (pr (v I 645) (pr (v I 646) (v I 647)))))]))))))
    (.ret [a (v (L T4) 2)]))))
def tr_laws_toIntSS : Tr := .guard (le (c 0) (ln (v (L (L I)) 0)))
 (.guard (le (ln (v (L (L I)) 0)) (c 549755813888))
  (.loop [a (v (L (L I)) 0), a (c 0), a (rep (ln (v (L (L I)) 0)) (z (L I)))]
   (.ite (lt (v I 1) (ln (v (L (L I)) 0)))
    (.guard (le (c 0) (v I 1))
     (.guard (lt (v I 1) (ln (v (L (L I)) 0)))
      (.call f_laws_toIntS [a (ix (v (L (L I)) 0) (v I 1))] 644
       (.guard (le (c 0) (v I 1))
        (.guard (lt (v I 1) (ln (v (L (L I)) 2)))
         (.jump 0 [a (v (L (L I)) 0), a (add (v I 1) (c 1)), a (st (v (L (L I)) 2) (v I 1) (v (L I) 644))]))))))
    (.ret [a (v (L (L I)) 2)]))))
def tr_spec_l1In : Tr := .ite (ge (v I 0) (v I 1))
 (.ret [a (le (v I 0) (v I 2))])
 (.ret [a (k false)])
def tr_spec_l1One : Tr := .ret [a (eq (v I 0) (c 7))]
def tr_spec_l1Kind : Tr := .join
 (.ite (eq (v I 0) (c 0))
  (.call f_spec_l1In [a (v I 1), a (c (-9999)), a (c 9999)] 100512
   (.ite (v B 100512)
    (.ite (eq (v I 2) (c 0))
     (.ite (eq (v I 3) (c 0))
      (.ret [a (c 1)])
      (.jump 0 [a (v (L I) 4), a (v I 5), a (v I 0), a (v I 1), a (v I 2), a (v I 3)]))
     (.jump 0 [a (v (L I) 4), a (v I 5), a (v I 0), a (v I 1), a (v I 2), a (v I 3)]))
    (.jump 0 [a (v (L I) 4), a (v I 5), a (v I 0), a (v I 1), a (v I 2), a (v I 3)])))
  (.jump 0 [a (v (L I) 4), a (v I 5), a (v I 0), a (v I 1), a (v I 2), a (v I 3)]))
 (.join
  (.ite (eq (v I 2) (c 1))
   (.call f_spec_l1In [a (v I 3), a (c 0), a (sub (v I 1) (c 1))] 519
    (.ite (v B 519)
     (.ite (eq (v I 4) (c 0))
      (.ite (eq (v I 5) (c 0))
       (.ret [a (c 1)])
       (.jump 0 [a (v (L I) 0), a (v I 2), a (v I 3), a (v I 4), a (v I 5)]))
      (.jump 0 [a (v (L I) 0), a (v I 2), a (v I 3), a (v I 4), a (v I 5)]))
     (.jump 0 [a (v (L I) 0), a (v I 2), a (v I 3), a (v I 4), a (v I 5)])))
   (.jump 0 [a (v (L I) 0), a (v I 2), a (v I 3), a (v I 4), a (v I 5)]))
  (.call f_spec_l1In [a (v I 1), a (c 2), a (c 9)] 134
   (.ite (nt (v B 134))
    (.ret [a (c 0)])
    (.ite (ne (v I 2) (c 0))
     (.ret [a (c 0)])
     (.call f_spec_l1In [a (v I 3), a (c 0), a (sub (ln (v (L I) 0)) (c 1))] 966
      (.ite (nt (v B 966))
       (.ret [a (c 0)])
       (.call f_spec_l1In [a (v I 4), a (c 0), a (sub (ln (v (L I) 0)) (c 1))] 1542
        (.ite (nt (v B 1542))
         (.ret [a (c 0)])
         (.join
          (.ite (ge (v I 1) (c 7))
           (.jump 0 [a (v (L I) 0), a (c 2), a (v I 1), a (v I 2), a (v I 3), a (v I 4)])
           (.jump 0 [a (v (L I) 0), a (c 1), a (v I 1), a (v I 2), a (v I 3), a (v I 4)]))
          (.join
           (.guard (le (c 0) (v I 4))
            (.guard (lt (v I 4) (ln (v (L I) 0)))
             (.ite (ne (ix (v (L I) 0) (v I 4)) (v I 1))
              (.ret [a (c 0)])
              (.guard (le (c 0) (v I 5))
               (.guard (lt (v I 5) (ln (v (L I) 0)))
                (.ite (ne (ix (v (L I) 0) (v I 5)) (v I 1))
                 (.ret [a (c 0)])
                 (.call f_spec_l1One [a (v I 2)] 1223
                  (.ite (v B 1223)
                   (.ite (ne (v I 5) (v I 4))
                    (.ret [a (c 0)])
                    (.jump 0 [a (v I 2), a (v I 3), a (v I 4), a (v I 5)]))
                   (.jump 0 [a (v I 2), a (v I 3), a (v I 4), a (v I 5)])))))))))
           (.ite (ge (v I 0) (c 5))
            (.ret [a (c 2)])
            (.ret [a (c 1)]))))))))))))
def tr_spec_KindsOf : Tr := .call f_spec_l1In [a (v I 1), a (c 0), a (c 5)] 100128
 (.ite (nt (v B 100128))
  (.ret [a (nl I)])
  (.call f_spec_l1In [a (ln (v (L T4) 0)), a (c 1), a (c 40)] 100448
   (.ite (nt (v B 100448))
    (.ret [a (nl I)])
    (.loop [a (v (L T4) 0), a (v I 1), a (c 0), a (nl I)]
     (.ite (lt (v I 2) (ln (v (L T4) 0)))
      (.guard (le (c 0) (v I 2))
       (.guard (lt (v I 2) (ln (v (L T4) 0)))
        (.call f_spec_l1Kind [a (f (ix (v (L T4) 0) (v I 2))), a (f (s (ix (v (L T4) 0) (v I 2)))), a (f (s (s (ix (v (L T4) 0) (v I 2))))), a (s (s (s (ix (v (L T4) 0) (v I 2))))), a (v (L I) 3), a (v I 1)] 645
         (.ite (eq (v I 645) (c 0))
          (.ret [a (nl I)])
          (.guard (le (ln (v (L I) 3)) (c 549755813888))
           (.guard (le (ln (one (v I 645))) (c 549755813888))
            (.jump 0 [a (v (L T4) 0), a (v I 1), a (add (v I 2) (c 1)), a (app (v (L I) 3) (one (v I 645)))])))))))
      (.ret [a (v (L I) 3)]))))))
def tr_spec_l2Is : Tr := .call f_spec_KindsOf [a (v (L T4) 0), a (v I 1)] 100192
 (.ite (gt (ln (v (L I) 100192)) (c 0))
  (.guard (le (c 0) (sub (ln (v (L I) 100192)) (c 1)))
   (.guard (lt (sub (ln (v (L I) 100192)) (c 1)) (ln (v (L I) 100192)))
    (.ret [a (eq (ix (v (L I) 100192) (sub (ln (v (L I) 100192)) (c 1))) (v I 2))])))
  (.ret [a (k false)]))
def tr_spec_l2Var : Tr := .call f_spec_l1In [a (v I 0), a (c (-9999)), a (c 9999)] 100256
 (.ite (v B 100256)
  (.call f_spec_l1In [a (v I 1), a (v I 0), a (c 9999)] 100640
   (.ite (v B 100640)
    (.ite (lt (sub (v I 1) (v I 0)) (c 20))
     (.call f_spec_l1In [a (v I 2), a (v I 0), a (v I 1)] 101728
      (.ret [a (v B 101728)]))
     (.ret [a (k false)]))
    (.ret [a (k false)])))
  (.ret [a (k false)]))
def tr_spec_l2Rule : Tr := .call f_spec_l2Is [a (v (L T4) 0), a (v I 3), a (c 2)] 100320
 (.ite (nt (v B 100320))
  (.ret [a (k false)])
  (.ite (ne (ln (v (L I) 1)) (ln (v (L (L T4)) 2)))
   (.ret [a (k false)])
   (.ite (gt (ln (v (L I) 1)) (v I 3))
    (.ret [a (k false)])
    (.loop [a (v I 3), a (c 0), a (v (L T4) 0), a (v (L I) 1), a (v (L (L T4)) 2)]
     (.ite (lt (v I 1) (ln (v (L I) 3)))
      (.join
       (.guard (le (c 0) (v I 1))
        (.guard (lt (v I 1) (ln (v (L I) 3)))
         (.call f_spec_l1In [a (ix (v (L I) 3) (v I 1)), a (c 0), a (sub (v I 0) (c 1))] 774
          (.ite (nt (v B 774))
           (.ret [a (k false)])
           (.ite (gt (v I 1) (c 0))
            (.guard (le (c 0) (v I 1))
             (.guard (lt (v I 1) (ln (v (L I) 3)))
              (.guard (le (c 0) (sub (v I 1) (c 1)))
               (.guard (lt (sub (v I 1) (c 1)) (ln (v (L I) 3)))
                (.ite (le (ix (v (L I) 3) (v I 1)) (ix (v (L I) 3) (sub (v I 1) (c 1))))
                 (.ret [a (k false)])
                 (.guard (le (c 0) (v I 1))
                  (.guard (lt (v I 1) (ln (v (L (L T4)) 4)))
                   (.call f_spec_l2Is [a (ix (v (L (L T4)) 4) (v I 1)), a (v I 0), a (c 1)] 2502
                    (.ite (nt (v B 2502))
                     (.ret [a (k false)])
                     (.jump 0 [a (v I 0), a (v I 1), a (v (L T4) 2), a (v (L I) 3), a (v (L (L T4)) 4)]))))))))))
            (.guard (le (c 0) (v I 1))
             (.guard (lt (v I 1) (ln (v (L (L T4)) 4)))
              (.call f_spec_l2Is [a (ix (v (L (L T4)) 4) (v I 1)), a (v I 0), a (c 1)] 2502
               (.ite (nt (v B 2502))
                (.ret [a (k false)])
                (.jump 0 [a (v I 0), a (v I 1), a (v (L T4) 2), a (v (L I) 3), a (v (L (L T4)) 4)]))))))))))
       (.jump 0 [a (v I 0), a (add (v I 1) (c 1)), a (v (L T4) 2), a (v (L I) 3), a (v (L (L T4)) 4)]))
      (.ret [a (k true)]))))))
def tr_spec_SystemValid : Tr := .call f_spec_l1In [a (ln (v (L V3) 0)), a (c 1), a (c 5)] 100320
 (.ite (nt (v B 100320))
  (.ret [a (k false)])
  (.ite (gt (ln (v (L TR) 1)) (c 8))
   (.ret [a (k false)])
   (.loop [a (c 1), a (c 0), a (v (L V3) 0), a (v (L TR) 1)]
    (.ite (lt (v I 1) (ln (v (L V3) 2)))
     (.guard (le (c 0) (v I 1))
      (.guard (lt (v I 1) (ln (v (L V3) 2)))
       (.call f_spec_l2Var [a (f (ix (v (L V3) 2) (v I 1))), a (f (s (ix (v (L V3) 2) (v I 1)))), a (s (s (ix (v (L V3) 2) (v I 1))))] 645
        (.ite (nt (v B 645))
         (.ret [a (k false)])
         (.guard (le (c 0) (v I 1))
          (.guard (lt (v I 1) (ln (v (L V3) 2)))
           (.guard (le (c 0) (v I 1))
            (.guard (lt (v I 1) (ln (v (L V3) 2)))
             (.jump 0 [a (mul (v I 0) (add (sub (f (s (ix (v (L V3) 2) (v I 1)))) (f (ix (v (L V3) 2) (v I 1)))) (c 1))), a (add (v I 1) (c 1)), a (v (L V3) 2), a (v (L TR) 3)])))))))))
     (.loop [a (v I 0), a (c 0), a (v (L V3) 2), a (v (L TR) 3)]
      (.ite (lt (v I 1) (ln (v (L TR) 3)))
       (.guard (le (c 0) (v I 1))
        (.guard (lt (v I 1) (ln (v (L TR) 3)))
         (.call f_spec_l2Rule [a (f (ix (v (L TR) 3) (v I 1))), a (f (s (ix (v (L TR) 3) (v I 1)))), a (s (s (ix (v (L TR) 3) (v I 1)))), a (ln (v (L V3) 2))] 837
          (.ite (nt (v B 837))
           (.ret [a (k false)])
           (.jump 0 [a (v I 0), a (add (v I 1) (c 1)), a (v (L V3) 2), a (v (L TR) 3)])))))
       (.ret [a (le (v I 0) (c 400))])))))))
def tr_spec_l20Facts : Tr := .loop [a (v (L (L T4)) 2), a (c 0), a (v (L V3) 0), a (v (L TR) 1)]
 (.ite (lt (v I 1) (ln (v (L (L T4)) 0)))
  (.guard (le (c 0) (v I 1))
   (.guard (lt (v I 1) (ln (v (L (L T4)) 0)))
    (.call f_spec_l2Is [a (ix (v (L (L T4)) 0) (v I 1)), a (ln (v (L V3) 2)), a (c 2)] 709
     (.ite (nt (v B 709))
      (.ret [a (k false)])
      (.jump 0 [a (v (L (L T4)) 0), a (add (v I 1) (c 1)), a (v (L V3) 2), a (v (L TR) 3)])))))
  (.call f_spec_SystemValid [a (v (L V3) 2), a (v (L TR) 3)] 325
   (.ite (v B 325)
    (.ret [a (le (ln (v (L (L T4)) 0)) (c 4))])
    (.ret [a (k false)]))))
end Go.Proofs.YthapopegchnhlaaGreat
namespace Go.Proofs.YthapopegchnhlaaGreat
open Go Go.Sm Go.Sm.Q
def tr_spec_l3At : Tr := .ite (lt (v I 2) (ln (v (L (L I)) 0)))
 (.guard (le (c 0) (v I 2))
  (.guard (lt (v I 2) (ln (v (L (L I)) 0)))
   (.ret [a (ix (v (L (L I)) 0) (v I 2))])))
 (.guard (ne (ln (v (L (L I)) 1)) (c 0))
  (.guard (le (c 0) (rem (sub (v I 2) (ln (v (L (L I)) 0))) (ln (v (L (L I)) 1))))
   (.guard (lt (rem (sub (v I 2) (ln (v (L (L I)) 0))) (ln (v (L (L I)) 1))) (ln (v (L (L I)) 1)))
    (.ret [a (ix (v (L (L I)) 1) (rem (sub (v I 2) (ln (v (L (L I)) 0))) (ln (v (L (L I)) 1))))]))))
def tr_spec_FirstState : Tr := .join
 (.loop [a (c 0), a (v (L V3) 0), a (v (L TR) 1), a (nl I)]
  (.ite (lt (v I 0) (ln (v (L V3) 1)))
   (.call f_spec_SystemValid [a (v (L V3) 1), a (v (L TR) 2)] 454
    (.ite (v B 454)
     (.guard (le (c 0) (v I 0))
      (.guard (lt (v I 0) (ln (v (L V3) 1)))
       (.guard (le (ln (v (L I) 3)) (c 549755813888))
        (.guard (le (ln (one (s (s (ix (v (L V3) 1) (v I 0)))))) (c 549755813888))
         (.jump 0 [a (add (v I 0) (c 1)), a (v (L V3) 1), a (v (L TR) 2), a (app (v (L I) 3) (one (s (s (ix (v (L V3) 1) (v I 0))))))])))))
     (.jump 1 [a (v (L I) 3)])))
   (.jump 1 [a (v (L I) 3)])))
 (.ret [a (v (L I) 0)])
def tr_spec_l2Same : Tr := .ite (ne (ln (v (L I) 0)) (ln (v (L I) 1)))
 (.ret [a (k false)])
 (.loop [a (v (L I) 0), a (v (L I) 1), a (c 0)]
  (.ite (lt (v I 2) (ln (v (L I) 0)))
   (.guard (le (c 0) (v I 2))
    (.guard (lt (v I 2) (ln (v (L I) 0)))
     (.guard (le (c 0) (v I 2))
      (.guard (lt (v I 2) (ln (v (L I) 1)))
       (.ite (ne (ix (v (L I) 0) (v I 2)) (ix (v (L I) 1) (v I 2)))
        (.ret [a (k false)])
        (.jump 0 [a (v (L I) 0), a (v (L I) 1), a (add (v I 2) (c 1))]))))))
   (.ret [a (k true)])))
def tr_spec_l2In : Tr := .ite (ne (ln (v (L I) 2)) (ln (v (L V3) 0)))
 (.ret [a (k false)])
 (.loop [a (v (L I) 2), a (c 0), a (v (L V3) 0), a (v (L TR) 1)]
  (.ite (lt (v I 1) (ln (v (L I) 0)))
   (.guard (le (c 0) (v I 1))
    (.guard (lt (v I 1) (ln (v (L I) 0)))
     (.guard (le (c 0) (v I 1))
      (.guard (lt (v I 1) (ln (v (L V3) 2)))
       (.guard (le (c 0) (v I 1))
        (.guard (lt (v I 1) (ln (v (L V3) 2)))
         (.call f_spec_l1In [a (ix (v (L I) 0) (v I 1)), a (f (ix (v (L V3) 2) (v I 1))), a (f (s (ix (v (L V3) 2) (v I 1))))] 1285
          (.ite (nt (v B 1285))
           (.ret [a (k false)])
           (.jump 0 [a (v (L I) 0), a (add (v I 1) (c 1)), a (v (L V3) 2), a (v (L TR) 3)])))))))))
   (.ret [a (k true)])))
def tr_spec_l1Held : Tr := .ite (gt (v I 0) (c 9999))
 (.ret [a (c 9999)])
 (.ite (lt (v I 0) (c (-9999)))
  (.ret [a (c (-9999))])
  (.ret [a (v I 0)]))
def tr_spec_l1Truth : Tr := .ite (v B 0)
 (.ret [a (c 1)])
 (.ret [a (c 0)])
def tr_spec_l1Do : Tr := .ite (eq (v I 0) (c 2))
 (.call f_spec_l1Held [a (add (v I 1) (v I 2))] 100384
  (.ret [a (v I 100384)]))
 (.ite (eq (v I 0) (c 3))
  (.call f_spec_l1Held [a (sub (v I 1) (v I 2))] 100512
   (.ret [a (v I 100512)]))
  (.ite (eq (v I 0) (c 4))
   (.call f_spec_l1Held [a (mul (v I 1) (v I 2))] 100640
    (.ret [a (v I 100640)]))
   (.ite (eq (v I 0) (c 5))
    (.call f_spec_l1Truth [a (lt (v I 1) (v I 2))] 100768
     (.ret [a (v I 100768)]))
    (.ite (eq (v I 0) (c 6))
     (.call f_spec_l1Truth [a (eq (v I 1) (v I 2))] 100896
      (.ret [a (v I 100896)]))
     (.ite (eq (v I 0) (c 7))
      (.ret [a (sub (c 1) (v I 1))])
      (.ite (eq (v I 0) (c 8))
       (.ret [a (mul (v I 1) (v I 2))])
       (.call f_spec_l1Truth [a (gt (add (v I 1) (v I 2)) (c 0))] 101216
        (.ret [a (v I 101216)]))))))))
def tr_spec_l1Values : Tr := .loop [a (v (L T4) 0), a (v (L I) 1), a (c 0), a (nl I)]
 (.ite (lt (v I 2) (ln (v (L T4) 0)))
  (.join
   (.guard (le (c 0) (v I 2))
    (.guard (lt (v I 2) (ln (v (L T4) 0)))
     (.ite (eq (f (ix (v (L T4) 0) (v I 2))) (c 0))
      (.guard (le (ln (v (L I) 3)) (c 549755813888))
       (.guard (le (ln (one (f (s (ix (v (L T4) 0) (v I 2)))))) (c 549755813888))
        (.jump 0 [a (v (L T4) 0), a (v (L I) 1), a (v I 2), a (app (v (L I) 3) (one (f (s (ix (v (L T4) 0) (v I 2))))))])))
      (.ite (eq (f (ix (v (L T4) 0) (v I 2))) (c 1))
       (.guard (le (c 0) (f (s (ix (v (L T4) 0) (v I 2)))))
        (.guard (lt (f (s (ix (v (L T4) 0) (v I 2)))) (ln (v (L I) 1)))
         (.guard (le (ln (v (L I) 3)) (c 549755813888))
          (.guard (le (ln (one (ix (v (L I) 1) (f (s (ix (v (L T4) 0) (v I 2))))))) (c 549755813888))
           (.jump 0 [a (v (L T4) 0), a (v (L I) 1), a (v I 2), a (app (v (L I) 3) (one (ix (v (L I) 1) (f (s (ix (v (L T4) 0) (v I 2)))))))])))))
       (.guard (le (c 0) (f (s (s (ix (v (L T4) 0) (v I 2))))))
        (.guard (lt (f (s (s (ix (v (L T4) 0) (v I 2))))) (ln (v (L I) 3)))
         (.guard (le (c 0) (s (s (s (ix (v (L T4) 0) (v I 2))))))
          (.guard (lt (s (s (s (ix (v (L T4) 0) (v I 2))))) (ln (v (L I) 3)))
           (.call f_spec_l1Do [a (f (ix (v (L T4) 0) (v I 2))), a (ix (v (L I) 3) (f (s (s (ix (v (L T4) 0) (v I 2)))))), a (ix (v (L I) 3) (s (s (s (ix (v (L T4) 0) (v I 2))))))] 1861
            (.guard (le (ln (v (L I) 3)) (c 549755813888))
             (.guard (le (ln (one (v I 1861))) (c 549755813888))
              (.jump 0 [a (v (L T4) 0), a (v (L I) 1), a (v I 2), a (app (v (L I) 3) (one (v I 1861)))]))))))))))))
   (.jump 0 [a (v (L T4) 0), a (v (L I) 1), a (add (v I 2) (c 1)), a (v (L I) 3)]))
  (.ret [a (v (L I) 3)]))
def tr_spec_l2Last : Tr := .call f_spec_l1Values [a (v (L T4) 0), a (v (L I) 1)] 100192
 (.guard (le (c 0) (sub (ln (v (L T4) 0)) (c 1)))
  (.guard (lt (sub (ln (v (L T4) 0)) (c 1)) (ln (v (L I) 100192)))
   (.ret [a (ix (v (L I) 100192) (sub (ln (v (L T4) 0)) (c 1)))])))
def tr_spec_l2Use : Tr := .guard (le (c 0) (v I 3))
 (.guard (lt (v I 3) (ln (v (L TR) 1)))
  (.call f_spec_l2Last [a (f (ix (v (L TR) 1) (v I 3))), a (v (L I) 2)] 100768
   (.ite (eq (v I 100768) (c 0))
    (.ret [a (nl I)])
    (.loop [a (v (L I) 2), a (c 0), a (v (L V3) 0), a (v (L TR) 1), a (f (ix (v (L TR) 1) (v I 3))), a (f (s (ix (v (L TR) 1) (v I 3)))), a (s (s (ix (v (L TR) 1) (v I 3)))), a (nl I)]
     (.ite (lt (v I 1) (ln (v (L I) 0)))
      (.guard (le (c 0) (v I 1))
       (.guard (lt (v I 1) (ln (v (L I) 0)))
        (.guard (le (ln (v (L I) 7)) (c 549755813888))
         (.guard (le (ln (one (ix (v (L I) 0) (v I 1)))) (c 549755813888))
          (.jump 0 [a (v (L I) 0), a (add (v I 1) (c 1)), a (v (L V3) 2), a (v (L TR) 3), a (v (L T4) 4), a (v (L I) 5), a (v (L (L T4)) 6), a (app (v (L I) 7) (one (ix (v (L I) 0) (v I 1))))])))))
      (.loop [a (v (L I) 0), a (c 0), a (v (L V3) 2), a (v (L TR) 3), a (v (L T4) 4), a (v (L I) 5), a (v (L (L T4)) 6), a (v (L I) 7)]
       (.ite (lt (v I 1) (ln (v (L I) 5)))
        (.guard (le (c 0) (v I 1))
         (.guard (lt (v I 1) (ln (v (L I) 5)))
          (.guard (le (c 0) (v I 1))
           (.guard (lt (v I 1) (ln (v (L (L T4)) 6)))
            (.call f_spec_l2Last [a (ix (v (L (L T4)) 6) (v I 1)), a (v (L I) 0)] 1099
             (.guard (le (c 0) (ix (v (L I) 5) (v I 1)))
              (.guard (lt (ix (v (L I) 5) (v I 1)) (ln (v (L I) 7)))
               (.jump 0 [a (v (L I) 0), a (add (v I 1) (c 1)), a (v (L V3) 2), a (v (L TR) 3), a (v (L T4) 4), a (v (L I) 5), a (v (L (L T4)) 6), a (st (v (L I) 7) (ix (v (L I) 5) (v I 1)) (v I 1099))]))))))))
        (.call f_spec_l2In [a (v (L V3) 2), a (v (L TR) 3), a (v (L I) 7)] 459
         (.ite (nt (v B 459))
          (.ret [a (nl I)])
          (.ret [a (v (L I) 7)]))))))))))
def tr_spec_l2Less : Tr := .join
 (.loop [a (v (L I) 0), a (v (L I) 1), a (c 0)]
  (.ite (lt (v I 2) (ln (v (L I) 0)))
   (.ite (lt (v I 2) (ln (v (L I) 1)))
    (.guard (le (c 0) (v I 2))
     (.guard (lt (v I 2) (ln (v (L I) 0)))
      (.guard (le (c 0) (v I 2))
       (.guard (lt (v I 2) (ln (v (L I) 1)))
        (.ite (ne (ix (v (L I) 0) (v I 2)) (ix (v (L I) 1) (v I 2)))
         (.guard (le (c 0) (v I 2))
          (.guard (lt (v I 2) (ln (v (L I) 0)))
           (.guard (le (c 0) (v I 2))
            (.guard (lt (v I 2) (ln (v (L I) 1)))
             (.ret [a (lt (ix (v (L I) 0) (v I 2)) (ix (v (L I) 1) (v I 2)))])))))
         (.jump 0 [a (v (L I) 0), a (v (L I) 1), a (add (v I 2) (c 1))]))))))
    (.jump 1 [a (v (L I) 0), a (v (L I) 1)]))
   (.jump 1 [a (v (L I) 0), a (v (L I) 1)])))
 (.ret [a (lt (ln (v (L I) 0)) (ln (v (L I) 1)))])
def tr_spec_l2Put : Tr := .loop [a (v (L (L I)) 0), a (v (L I) 1), a (k false), a (c 0), a (nl (L I))]
 (.ite (lt (v I 3) (ln (v (L (L I)) 0)))
  (.join
   (.ite (nt (v B 2))
    (.guard (le (c 0) (v I 3))
     (.guard (lt (v I 3) (ln (v (L (L I)) 0)))
      (.call f_spec_l2Same [a (ix (v (L (L I)) 0) (v I 3)), a (v (L I) 1)] 774
       (.ite (v B 774)
        (.jump 0 [a (v (L (L I)) 0), a (v (L I) 1), a (k true), a (v I 3), a (v (L (L I)) 4)])
        (.jump 0 [a (v (L (L I)) 0), a (v (L I) 1), a (v B 2), a (v I 3), a (v (L (L I)) 4)])))))
    (.jump 0 [a (v (L (L I)) 0), a (v (L I) 1), a (v B 2), a (v I 3), a (v (L (L I)) 4)]))
   (.join
    (.ite (nt (v B 2))
     (.guard (le (c 0) (v I 3))
      (.guard (lt (v I 3) (ln (v (L (L I)) 0)))
       (.call f_spec_l2Less [a (v (L I) 1), a (ix (v (L (L I)) 0) (v I 3))] 518
        (.ite (v B 518)
         (.guard (le (ln (v (L (L I)) 4)) (c 549755813888))
          (.guard (le (ln (one (v (L I) 1))) (c 549755813888))
           (.jump 0 [a (v (L (L I)) 0), a (v (L I) 1), a (k true), a (v I 3), a (app (v (L (L I)) 4) (one (v (L I) 1)))])))
         (.jump 0 [a (v (L (L I)) 0), a (v (L I) 1), a (v B 2), a (v I 3), a (v (L (L I)) 4)])))))
     (.jump 0 [a (v (L (L I)) 0), a (v (L I) 1), a (v B 2), a (v I 3), a (v (L (L I)) 4)]))
    (.guard (le (c 0) (v I 3))
     (.guard (lt (v I 3) (ln (v (L (L I)) 0)))
      (.guard (le (ln (v (L (L I)) 4)) (c 549755813888))
       (.guard (le (ln (one (ix (v (L (L I)) 0) (v I 3)))) (c 549755813888))
        (.jump 0 [a (v (L (L I)) 0), a (v (L I) 1), a (v B 2), a (add (v I 3) (c 1)), a (app (v (L (L I)) 4) (one (ix (v (L (L I)) 0) (v I 3))))])))))))
  (.join
   (.ite (nt (v B 2))
    (.guard (le (ln (v (L (L I)) 4)) (c 549755813888))
     (.guard (le (ln (one (v (L I) 1))) (c 549755813888))
      (.jump 0 [a (app (v (L (L I)) 4) (one (v (L I) 1)))])))
    (.jump 0 [a (v (L (L I)) 4)]))
   (.ret [a (v (L (L I)) 0)])))
def tr_spec_l2Next : Tr := .loop [a (v (L I) 2), a (c 0), a (v (L V3) 0), a (v (L TR) 1), a (nl (L I))]
 (.ite (lt (v I 1) (ln (v (L TR) 3)))
  (.join
   (.call f_spec_l2Use [a (v (L V3) 2), a (v (L TR) 3), a (v (L I) 0), a (v I 1)] 519
    (.ite (gt (ln (v (L I) 519)) (c 0))
     (.call f_spec_l2Put [a (v (L (L I)) 4), a (v (L I) 519)] 967
      (.jump 0 [a (v (L I) 0), a (v I 1), a (v (L V3) 2), a (v (L TR) 3), a (v (L (L I)) 967)]))
     (.jump 0 [a (v (L I) 0), a (v I 1), a (v (L V3) 2), a (v (L TR) 3), a (v (L (L I)) 4)])))
   (.jump 0 [a (v (L I) 0), a (add (v I 1) (c 1)), a (v (L V3) 2), a (v (L TR) 3), a (v (L (L I)) 4)]))
  (.ret [a (v (L (L I)) 4)]))
def tr_spec_l3Follows : Tr := .call f_spec_l2Next [a (v (L V3) 0), a (v (L TR) 1), a (v (L I) 2)] 100256
 (.ite (eq (ln (v (L (L I)) 100256)) (c 0))
  (.call f_spec_l2Same [a (v (L I) 2), a (v (L I) 3)] 100704
   (.ret [a (v B 100704)]))
  (.loop [a (v (L I) 3), a (c 0), a (v (L (L I)) 100256)]
   (.ite (lt (v I 1) (ln (v (L (L I)) 2)))
    (.guard (le (c 0) (v I 1))
     (.guard (lt (v I 1) (ln (v (L (L I)) 2)))
      (.call f_spec_l2Same [a (ix (v (L (L I)) 2) (v I 1)), a (v (L I) 0)] 580
       (.ite (v B 580)
        (.ret [a (k true)])
        (.jump 0 [a (v (L I) 0), a (add (v I 1) (c 1)), a (v (L (L I)) 2)])))))
    (.ret [a (k false)]))))
def tr_spec_LassoValid : Tr := .call f_spec_SystemValid [a (v (L V3) 0), a (v (L TR) 1)] 100576
 (.ite (nt (v B 100576))
  (.ret [a (k false)])
  (.ite (eq (ln (v (L (L I)) 3)) (c 0))
   (.ret [a (k false)])
   (.ite (gt (add (ln (v (L (L I)) 2)) (ln (v (L (L I)) 3))) (c 500))
    (.ret [a (k false)])
    (.call f_spec_l3At [a (v (L (L I)) 2), a (v (L (L I)) 3), a (c 0)] 101536
     (.call f_spec_FirstState [a (v (L V3) 0), a (v (L TR) 1)] 101600
      (.call f_spec_l2Same [a (v (L I) 101536), a (v (L I) 101600)] 101664
       (.ite (nt (v B 101664))
        (.ret [a (k false)])
        (.loop [a (v (L (L I)) 2), a (v (L (L I)) 3), a (add (ln (v (L (L I)) 2)) (ln (v (L (L I)) 3))), a (c 0), a (v (L V3) 0), a (v (L TR) 1)]
         (.ite (lt (v I 3) (v I 2))
          (.call f_spec_l3At [a (v (L (L I)) 0), a (v (L (L I)) 1), a (v I 3)] 455
           (.call f_spec_l2In [a (v (L V3) 4), a (v (L TR) 5), a (v (L I) 455)] 519
            (.ite (nt (v B 519))
             (.ret [a (k false)])
             (.call f_spec_l3At [a (v (L (L I)) 0), a (v (L (L I)) 1), a (add (v I 3) (c 1))] 1031
              (.call f_spec_l2In [a (v (L V3) 4), a (v (L TR) 5), a (v (L I) 1031)] 1095
               (.ite (nt (v B 1095))
                (.ret [a (k false)])
                (.call f_spec_l3At [a (v (L (L I)) 0), a (v (L (L I)) 1), a (v I 3)] 1863
                 (.call f_spec_l3At [a (v (L (L I)) 0), a (v (L (L I)) 1), a (add (v I 3) (c 1))] 1927
                  (.call f_spec_l3Follows [a (v (L V3) 4), a (v (L TR) 5), a (v (L I) 1863), a (v (L I) 1927)] 1991
                   (.ite (nt (v B 1991))
                    (.ret [a (k false)])
                    (.jump 0 [a (v (L (L I)) 0), a (v (L (L I)) 1), a (v I 2), a (add (v I 3) (c 1)), a (v (L V3) 4), a (v (L TR) 5)])))))))))))
          (.ret [a (k true)]))))))))))
def tr_spec_l20Of : Tr := .loop [a (v (L (L T4)) 0), a (v (L I) 1), a (c 0), a (nl I)]
 (.ite (lt (v I 2) (ln (v (L (L T4)) 0)))
  (.guard (le (c 0) (v I 2))
   (.guard (lt (v I 2) (ln (v (L (L T4)) 0)))
    (.call f_spec_l2Last [a (ix (v (L (L T4)) 0) (v I 2)), a (v (L I) 1)] 645
     (.guard (le (ln (v (L I) 3)) (c 549755813888))
      (.guard (le (ln (one (v I 645))) (c 549755813888))
       (.jump 0 [a (v (L (L T4)) 0), a (v (L I) 1), a (add (v I 2) (c 1)), a (app (v (L I) 3) (one (v I 645)))]))))))
  (.ret [a (v (L I) 3)]))
def tr_spec_l20One : Tr := .ite (eq (v I 0) (c 2))
 (.ret [a (k true)])
 (.ret [a (eq (v I 0) (c 5))])
def tr_spec_l20Step : Tr := .ite (eq (v I 0) (c 0))
 (.ite (eq (v I 1) (c 0))
  (.ite (eq (v I 2) (c 0))
   (.ret [a (eq (v I 3) (c 0))])
   (.ret [a (k false)]))
  (.ret [a (k false)]))
 (.ite (eq (v I 0) (c 1))
  (.call f_spec_l1In [a (v I 1), a (c 0), a (sub (v I 5) (c 1))] 100768
   (.ite (v B 100768)
    (.ite (eq (v I 2) (c 0))
     (.ret [a (eq (v I 3) (c 0))])
     (.ret [a (k false)]))
    (.ret [a (k false)])))
  (.call f_spec_l1In [a (v I 0), a (c 2), a (c 7)] 100640
   (.ite (nt (v B 100640))
    (.ret [a (k false)])
    (.ite (ne (v I 1) (c 0))
     (.ret [a (k false)])
     (.call f_spec_l1In [a (v I 2), a (c 0), a (sub (v I 4) (c 1))] 101408
      (.ite (nt (v B 101408))
       (.ret [a (k false)])
       (.call f_spec_l1In [a (v I 3), a (c 0), a (sub (v I 4) (c 1))] 101920
        (.ite (nt (v B 101920))
         (.ret [a (k false)])
         (.call f_spec_l20One [a (v I 0)] 102240
          (.ite (nt (v B 102240))
           (.ret [a (k true)])
           (.ret [a (eq (v I 3) (v I 2))])))))))))))
def tr_spec_TimesValid : Tr := .call f_spec_l1In [a (v I 1), a (c 0), a (c 4)] 100128
 (.ite (nt (v B 100128))
  (.ret [a (k false)])
  (.call f_spec_l1In [a (ln (v (L T4) 0)), a (c 1), a (c 24)] 100448
   (.ite (nt (v B 100448))
    (.ret [a (k false)])
    (.loop [a (v (L T4) 0), a (v I 1), a (c 0)]
     (.ite (lt (v I 2) (ln (v (L T4) 0)))
      (.guard (le (c 0) (v I 2))
       (.guard (lt (v I 2) (ln (v (L T4) 0)))
        (.call f_spec_l20Step [a (f (ix (v (L T4) 0) (v I 2))), a (f (s (ix (v (L T4) 0) (v I 2)))), a (f (s (s (ix (v (L T4) 0) (v I 2))))), a (s (s (s (ix (v (L T4) 0) (v I 2))))), a (v I 2), a (v I 1)] 643
         (.ite (nt (v B 643))
          (.ret [a (k false)])
          (.jump 0 [a (v (L T4) 0), a (v I 1), a (add (v I 2) (c 1))])))))
      (.ret [a (k true)]))))))
def tr_spec_l6Are : Tr := .loop [a (v (L I) 0), a (c 0)]
 (.ite (lt (v I 1) (ln (v (L I) 0)))
  (.guard (le (c 0) (v I 1))
   (.guard (lt (v I 1) (ln (v (L I) 0)))
    (.call f_spec_l1In [a (ix (v (L I) 0) (v I 1)), a (c 0), a (c 1)] 514
     (.ite (nt (v B 514))
      (.ret [a (k false)])
      (.jump 0 [a (v (L I) 0), a (add (v I 1) (c 1))])))))
  (.ret [a (k true)]))
def tr_spec_l20Letters : Tr := .loop [a (v (L (L I)) 0), a (v I 1), a (c 0)]
 (.ite (lt (v I 2) (ln (v (L (L I)) 0)))
  (.guard (le (c 0) (v I 2))
   (.guard (lt (v I 2) (ln (v (L (L I)) 0)))
    (.ite (ne (ln (ix (v (L (L I)) 0) (v I 2))) (v I 1))
     (.ret [a (k false)])
     (.guard (le (c 0) (v I 2))
      (.guard (lt (v I 2) (ln (v (L (L I)) 0)))
       (.call f_spec_l6Are [a (ix (v (L (L I)) 0) (v I 2))] 1027
        (.ite (nt (v B 1027))
         (.ret [a (k false)])
         (.jump 0 [a (v (L (L I)) 0), a (v I 1), a (add (v I 2) (c 1))]))))))))
  (.ret [a (k true)]))
def tr_spec_WordValid : Tr := .call f_spec_l1In [a (v I 2), a (c 0), a (c 4)] 100128
 (.ite (v B 100128)
  (.ite (gt (ln (v (L (L I)) 1)) (c 0))
   (.ite (le (add (ln (v (L (L I)) 0)) (ln (v (L (L I)) 1))) (c 60))
    (.call f_spec_l20Letters [a (v (L (L I)) 0), a (v I 2)] 101216
     (.ite (v B 101216)
      (.call f_spec_l20Letters [a (v (L (L I)) 1), a (v I 2)] 101536
       (.ret [a (v B 101536)]))
      (.ret [a (k false)])))
    (.ret [a (k false)]))
   (.ret [a (k false)]))
  (.ret [a (k false)]))
def tr_spec_l20Next : Tr := .ite (lt (add (v I 0) (c 1)) (v I 2))
 (.ret [a (add (v I 0) (c 1))])
 (.ret [a (v I 1)])
def tr_spec_l20Later : Tr := .loop [a (v (L (L I)) 4), a (v I 5), a (v I 6), a (c 0), a (v I 0), a (v I 1), a (v I 2), a (v I 3), a (nl I)]
 (.ite (lt (v I 3) (v I 2))
  (.join
   (.ite (eq (v I 4) (c 7))
    (.guard (le (ln (v (L I) 8)) (c 549755813888))
     (.guard (le (ln (one (c 1))) (c 549755813888))
      (.jump 0 [a (v (L (L I)) 0), a (v I 1), a (v I 2), a (v I 3), a (v I 4), a (v I 5), a (v I 6), a (v I 7), a (app (v (L I) 8) (one (c 1)))])))
    (.guard (le (ln (v (L I) 8)) (c 549755813888))
     (.guard (le (ln (one (c 0))) (c 549755813888))
      (.jump 0 [a (v (L (L I)) 0), a (v I 1), a (v I 2), a (v I 3), a (v I 4), a (v I 5), a (v I 6), a (v I 7), a (app (v (L I) 8) (one (c 0)))]))))
   (.jump 0 [a (v (L (L I)) 0), a (v I 1), a (v I 2), a (add (v I 3) (c 1)), a (v I 4), a (v I 5), a (v I 6), a (v I 7), a (v (L I) 8)]))
  (.loop [a (v (L (L I)) 0), a (v I 1), a (v I 2), a (c 0), a (v I 4), a (v I 5), a (v I 6), a (v I 7), a (v (L I) 8)]
   (.ite (le (v I 3) (v I 2))
    (.loop [a (v (L (L I)) 0), a (v I 1), a (v I 2), a (v I 3), a (sub (v I 2) (c 1)), a (v I 4), a (v I 5), a (v I 6), a (v I 7), a (v (L I) 8)]
     (.ite (ge (v I 4) (c 0))
      (.join
       (.guard (le (c 0) (v I 7))
        (.guard (lt (v I 7) (ln (v (L (L I)) 0)))
         (.guard (le (c 0) (v I 4))
          (.guard (lt (v I 4) (ln (ix (v (L (L I)) 0) (v I 7))))
           (.guard (le (c 0) (v I 8))
            (.guard (lt (v I 8) (ln (v (L (L I)) 0)))
             (.guard (le (c 0) (v I 4))
              (.guard (lt (v I 4) (ln (ix (v (L (L I)) 0) (v I 8))))
               (.call f_spec_l20Next [a (v I 4), a (v I 1), a (v I 2)] 1548
                (.guard (le (c 0) (v I 1548))
                 (.guard (lt (v I 1548) (ln (v (L I) 9)))
                  (.ite (eq (v I 5) (c 6))
                   (.ite (eq (ix (ix (v (L (L I)) 0) (v I 8)) (v I 4)) (c 1))
                    (.call f_spec_l1Truth [a (k true)] 2764
                     (.guard (le (c 0) (v I 4))
                      (.guard (lt (v I 4) (ln (v (L I) 9)))
                       (.jump 0 [a (v (L (L I)) 0), a (v I 1), a (v I 2), a (v I 3), a (v I 4), a (v I 5), a (v I 6), a (v I 7), a (v I 8), a (st (v (L I) 9) (v I 4) (v I 2764))]))))
                    (.ite (eq (ix (ix (v (L (L I)) 0) (v I 7)) (v I 4)) (c 1))
                     (.call f_spec_l1Truth [a (eq (ix (v (L I) 9) (v I 1548)) (c 1))] 2764
                      (.guard (le (c 0) (v I 4))
                       (.guard (lt (v I 4) (ln (v (L I) 9)))
                        (.jump 0 [a (v (L (L I)) 0), a (v I 1), a (v I 2), a (v I 3), a (v I 4), a (v I 5), a (v I 6), a (v I 7), a (v I 8), a (st (v (L I) 9) (v I 4) (v I 2764))]))))
                     (.call f_spec_l1Truth [a (k false)] 2764
                      (.guard (le (c 0) (v I 4))
                       (.guard (lt (v I 4) (ln (v (L I) 9)))
                        (.jump 0 [a (v (L (L I)) 0), a (v I 1), a (v I 2), a (v I 3), a (v I 4), a (v I 5), a (v I 6), a (v I 7), a (v I 8), a (st (v (L I) 9) (v I 4) (v I 2764))]))))))
                   (.ite (eq (ix (ix (v (L (L I)) 0) (v I 8)) (v I 4)) (c 1))
                    (.ite (eq (ix (ix (v (L (L I)) 0) (v I 7)) (v I 4)) (c 1))
                     (.call f_spec_l1Truth [a (k true)] 2764
                      (.guard (le (c 0) (v I 4))
                       (.guard (lt (v I 4) (ln (v (L I) 9)))
                        (.jump 0 [a (v (L (L I)) 0), a (v I 1), a (v I 2), a (v I 3), a (v I 4), a (v I 5), a (v I 6), a (v I 7), a (v I 8), a (st (v (L I) 9) (v I 4) (v I 2764))]))))
                     (.call f_spec_l1Truth [a (eq (ix (v (L I) 9) (v I 1548)) (c 1))] 2764
                      (.guard (le (c 0) (v I 4))
                       (.guard (lt (v I 4) (ln (v (L I) 9)))
                        (.jump 0 [a (v (L (L I)) 0), a (v I 1), a (v I 2), a (v I 3), a (v I 4), a (v I 5), a (v I 6), a (v I 7), a (v I 8), a (st (v (L I) 9) (v I 4) (v I 2764))])))))
                    (.call f_spec_l1Truth [a (k false)] 2764
                     (.guard (le (c 0) (v I 4))
                      (.guard (lt (v I 4) (ln (v (L I) 9)))
                       (.jump 0 [a (v (L (L I)) 0), a (v I 1), a (v I 2), a (v I 3), a (v I 4), a (v I 5), a (v I 6), a (v I 7), a (v I 8), a (st (v (L I) 9) (v I 4) (v I 2764))])))))))))))))))))
       (.jump 0 [a (v (L (L I)) 0), a (v I 1), a (v I 2), a (v I 3), a (sub (v I 4) (c 1)), a (v I 5), a (v I 6), a (v I 7), a (v I 8), a (v (L I) 9)]))
      (.jump 1 [a (v (L (L I)) 0), a (v I 1), a (v I 2), a (add (v I 3) (c 1)), a (v I 5), a (v I 6), a (v I 7), a (v I 8), a (v (L I) 9)])))
    (.ret [a (v (L I) 8)]))))
def tr_spec_l20Row : Tr := .ite (ge (v I 0) (c 6))
 (.call f_spec_l20Later [a (v I 0), a (v I 1), a (v I 2), a (v I 3), a (v (L (L I)) 4), a (ln (v (L (L I)) 5)), a (add (ln (v (L (L I)) 5)) (ln (v (L (L I)) 6)))] 101024
  (.ret [a (v (L I) 101024)]))
 (.loop [a (v (L (L I)) 4), a (v (L (L I)) 5), a (v (L (L I)) 6), a (add (ln (v (L (L I)) 5)) (ln (v (L (L I)) 6))), a (c 0), a (v I 0), a (v I 1), a (v I 2), a (v I 3), a (nl I)]
  (.ite (lt (v I 4) (v I 3))
   (.join
    (.ite (eq (v I 5) (c 1))
     (.call f_spec_l3At [a (v (L (L I)) 1), a (v (L (L I)) 2), a (v I 4)] 780
      (.guard (le (c 0) (v I 6))
       (.guard (lt (v I 6) (ln (v (L I) 780)))
        (.jump 0 [a (v (L (L I)) 0), a (v (L (L I)) 1), a (v (L (L I)) 2), a (v I 3), a (v I 4), a (ix (v (L I) 780) (v I 6)), a (v I 5), a (v I 6), a (v I 7), a (v I 8), a (v (L I) 9)]))))
     (.ite (eq (v I 5) (c 2))
      (.guard (le (c 0) (v I 7))
       (.guard (lt (v I 7) (ln (v (L (L I)) 0)))
        (.guard (le (c 0) (v I 4))
         (.guard (lt (v I 4) (ln (ix (v (L (L I)) 0) (v I 7))))
          (.jump 0 [a (v (L (L I)) 0), a (v (L (L I)) 1), a (v (L (L I)) 2), a (v I 3), a (v I 4), a (sub (c 1) (ix (ix (v (L (L I)) 0) (v I 7)) (v I 4))), a (v I 5), a (v I 6), a (v I 7), a (v I 8), a (v (L I) 9)])))))
      (.ite (eq (v I 5) (c 3))
       (.guard (le (c 0) (v I 7))
        (.guard (lt (v I 7) (ln (v (L (L I)) 0)))
         (.guard (le (c 0) (v I 4))
          (.guard (lt (v I 4) (ln (ix (v (L (L I)) 0) (v I 7))))
           (.guard (le (c 0) (v I 8))
            (.guard (lt (v I 8) (ln (v (L (L I)) 0)))
             (.guard (le (c 0) (v I 4))
              (.guard (lt (v I 4) (ln (ix (v (L (L I)) 0) (v I 8))))
               (.jump 0 [a (v (L (L I)) 0), a (v (L (L I)) 1), a (v (L (L I)) 2), a (v I 3), a (v I 4), a (mul (ix (ix (v (L (L I)) 0) (v I 7)) (v I 4)) (ix (ix (v (L (L I)) 0) (v I 8)) (v I 4))), a (v I 5), a (v I 6), a (v I 7), a (v I 8), a (v (L I) 9)])))))))))
       (.ite (eq (v I 5) (c 4))
        (.guard (le (c 0) (v I 7))
         (.guard (lt (v I 7) (ln (v (L (L I)) 0)))
          (.guard (le (c 0) (v I 4))
           (.guard (lt (v I 4) (ln (ix (v (L (L I)) 0) (v I 7))))
            (.guard (le (c 0) (v I 8))
             (.guard (lt (v I 8) (ln (v (L (L I)) 0)))
              (.guard (le (c 0) (v I 4))
               (.guard (lt (v I 4) (ln (ix (v (L (L I)) 0) (v I 8))))
                (.call f_spec_l1Truth [a (gt (add (ix (ix (v (L (L I)) 0) (v I 7)) (v I 4)) (ix (ix (v (L (L I)) 0) (v I 8)) (v I 4))) (c 0))] 2188
                 (.jump 0 [a (v (L (L I)) 0), a (v (L (L I)) 1), a (v (L (L I)) 2), a (v I 3), a (v I 4), a (v I 2188), a (v I 5), a (v I 6), a (v I 7), a (v I 8), a (v (L I) 9)]))))))))))
        (.ite (eq (v I 5) (c 5))
         (.guard (le (c 0) (v I 7))
          (.guard (lt (v I 7) (ln (v (L (L I)) 0)))
           (.call f_spec_l20Next [a (v I 4), a (ln (v (L (L I)) 1)), a (v I 3)] 1804
            (.guard (le (c 0) (v I 1804))
             (.guard (lt (v I 1804) (ln (ix (v (L (L I)) 0) (v I 7))))
              (.jump 0 [a (v (L (L I)) 0), a (v (L (L I)) 1), a (v (L (L I)) 2), a (v I 3), a (v I 4), a (ix (ix (v (L (L I)) 0) (v I 7)) (v I 1804)), a (v I 5), a (v I 6), a (v I 7), a (v I 8), a (v (L I) 9)]))))))
         (.jump 0 [a (v (L (L I)) 0), a (v (L (L I)) 1), a (v (L (L I)) 2), a (v I 3), a (v I 4), a (c 1), a (v I 5), a (v I 6), a (v I 7), a (v I 8), a (v (L I) 9)]))))))
    (.guard (le (ln (v (L I) 10)) (c 549755813888))
     (.guard (le (ln (one (v I 5))) (c 549755813888))
      (.jump 0 [a (v (L (L I)) 0), a (v (L (L I)) 1), a (v (L (L I)) 2), a (v I 3), a (add (v I 4) (c 1)), a (v I 6), a (v I 7), a (v I 8), a (v I 9), a (app (v (L I) 10) (one (v I 5)))]))))
   (.ret [a (v (L I) 9)])))
def tr_spec_TimesOn : Tr := .call f_spec_TimesValid [a (v (L T4) 0), a (v I 3)] 100192
 (.ite (nt (v B 100192))
  (.ret [a (nl (L I))])
  (.call f_spec_WordValid [a (v (L (L I)) 1), a (v (L (L I)) 2), a (v I 3)] 100576
   (.ite (nt (v B 100576))
    (.ret [a (nl (L I))])
    (.loop [a (v (L T4) 0), a (v (L (L I)) 1), a (v (L (L I)) 2), a (c 0), a (nl (L I))]
     (.ite (lt (v I 3) (ln (v (L T4) 0)))
      (.guard (le (c 0) (v I 3))
       (.guard (lt (v I 3) (ln (v (L T4) 0)))
        (.call f_spec_l20Row [a (f (ix (v (L T4) 0) (v I 3))), a (f (s (ix (v (L T4) 0) (v I 3)))), a (f (s (s (ix (v (L T4) 0) (v I 3))))), a (s (s (s (ix (v (L T4) 0) (v I 3))))), a (v (L (L I)) 4), a (v (L (L I)) 1), a (v (L (L I)) 2)] 774
         (.guard (le (ln (v (L (L I)) 4)) (c 549755813888))
          (.guard (le (ln (one (v (L I) 774))) (c 549755813888))
           (.jump 0 [a (v (L T4) 0), a (v (L (L I)) 1), a (v (L (L I)) 2), a (add (v I 3) (c 1)), a (app (v (L (L I)) 4) (one (v (L I) 774)))]))))))
      (.ret [a (v (L (L I)) 4)]))))))
def tr_spec_HoldsOn : Tr := .call f_spec_TimesOn [a (v (L T4) 0), a (v (L (L I)) 1), a (v (L (L I)) 2), a (v I 3)] 100320
 (.ite (gt (ln (v (L (L I)) 100320)) (c 0))
  (.guard (le (c 0) (sub (ln (v (L (L I)) 100320)) (c 1)))
   (.guard (lt (sub (ln (v (L (L I)) 100320)) (c 1)) (ln (v (L (L I)) 100320)))
    (.guard (lt (c 0) (ln (ix (v (L (L I)) 100320) (sub (ln (v (L (L I)) 100320)) (c 1)))))
     (.ret [a (eq (ix (ix (v (L (L I)) 100320) (sub (ln (v (L (L I)) 100320)) (c 1))) (c 0)) (c 1))]))))
  (.ret [a (k false)]))
def tr_spec_HoldsOnRun : Tr := .call f_spec_l20Facts [a (v (L V3) 0), a (v (L TR) 1), a (v (L (L T4)) 2)] 100256
 (.ite (nt (v B 100256))
  (.ret [a (k false)])
  (.call f_spec_LassoValid [a (v (L V3) 0), a (v (L TR) 1), a (v (L (L I)) 4), a (v (L (L I)) 5)] 100640
   (.ite (nt (v B 100640))
    (.ret [a (k false)])
    (.loop [a (v (L (L T4)) 2), a (v (L T4) 3), a (v (L (L I)) 4), a (v (L (L I)) 5), a (c 0), a (nl (L I)), a (nl (L I))]
     (.ite (lt (v I 4) (ln (v (L (L I)) 2)))
      (.guard (le (c 0) (v I 4))
       (.guard (lt (v I 4) (ln (v (L (L I)) 2)))
        (.call f_spec_l20Of [a (v (L (L T4)) 0), a (ix (v (L (L I)) 2) (v I 4))] 649
         (.guard (le (ln (v (L (L I)) 5)) (c 549755813888))
          (.guard (le (ln (one (v (L I) 649))) (c 549755813888))
           (.jump 0 [a (v (L (L T4)) 0), a (v (L T4) 1), a (v (L (L I)) 2), a (v (L (L I)) 3), a (add (v I 4) (c 1)), a (app (v (L (L I)) 5) (one (v (L I) 649))), a (v (L (L I)) 6)]))))))
      (.loop [a (v (L (L T4)) 0), a (v (L T4) 1), a (v (L (L I)) 3), a (c 0), a (v (L (L I)) 5), a (v (L (L I)) 6)]
       (.ite (lt (v I 3) (ln (v (L (L I)) 2)))
        (.guard (le (c 0) (v I 3))
         (.guard (lt (v I 3) (ln (v (L (L I)) 2)))
          (.call f_spec_l20Of [a (v (L (L T4)) 0), a (ix (v (L (L I)) 2) (v I 3))] 648
           (.guard (le (ln (v (L (L I)) 5)) (c 549755813888))
            (.guard (le (ln (one (v (L I) 648))) (c 549755813888))
             (.jump 0 [a (v (L (L T4)) 0), a (v (L T4) 1), a (v (L (L I)) 2), a (add (v I 3) (c 1)), a (v (L (L I)) 4), a (app (v (L (L I)) 5) (one (v (L I) 648)))]))))))
        (.call f_spec_HoldsOn [a (v (L T4) 1), a (v (L (L I)) 4), a (v (L (L I)) 5), a (ln (v (L (L T4)) 0))] 584
         (.ret [a (v B 584)])))))))))
def tr_impl_in : Tr := .ite (ge (v I 0) (v I 1))
 (.ret [a (le (v I 0) (v I 2))])
 (.ret [a (k false)])
def tr_impl_varOk : Tr := .call f_impl_in [a (v I 0), a (c (-9999)), a (c 9999)] 100256
 (.ite (v B 100256)
  (.call f_impl_in [a (v I 1), a (v I 0), a (c 9999)] 100640
   (.ite (v B 100640)
    (.ite (lt (sub (v I 1) (v I 0)) (c 20))
     (.call f_impl_in [a (v I 2), a (v I 0), a (v I 1)] 101728
      (.ret [a (v B 101728)]))
     (.ret [a (k false)]))
    (.ret [a (k false)])))
  (.ret [a (k false)]))
end Go.Proofs.YthapopegchnhlaaGreat
namespace Go.Proofs.YthapopegchnhlaaGreat
open Go Go.Sm Go.Sm.Q
def tr_impl_size : Tr := .loop [a (c 1), a (v (L V3) 0), a (ln (v (L V3) 0)), a (c 0)]
 (.ite (lt (v I 3) (v I 2))
  (.guard (le (c 0) (v I 3))
   (.guard (lt (v I 3) (ln (v (L V3) 1)))
    (.jump 0 [a (mul (v I 0) (add (sub (f (s (ix (v (L V3) 1) (v I 3)))) (f (ix (v (L V3) 1) (v I 3)))) (c 1))), a (v (L V3) 1), a (v I 2), a (add (v I 3) (c 1))])))
  (.ret [a (v I 0)]))
def tr_impl_parts : Tr := .ite (eq (v I 0) (c 2))
 (.ret [a (c 2), a (c 1), a (c 1)])
 (.ite (eq (v I 0) (c 3))
  (.ret [a (c 2), a (c 1), a (c 1)])
  (.ite (eq (v I 0) (c 4))
   (.ret [a (c 2), a (c 1), a (c 1)])
   (.ite (eq (v I 0) (c 5))
    (.ret [a (c 2), a (c 1), a (c 2)])
    (.ite (eq (v I 0) (c 6))
     (.ret [a (c 2), a (c 1), a (c 2)])
     (.ite (eq (v I 0) (c 7))
      (.ret [a (c 1), a (c 2), a (c 2)])
      (.ite (eq (v I 0) (c 8))
       (.ret [a (c 2), a (c 2), a (c 2)])
       (.ite (eq (v I 0) (c 9))
        (.ret [a (c 2), a (c 2), a (c 2)])
        (.ret [a (c 0), a (c 0), a (c 1)]))))))))
def tr_impl_kindsOf : Tr := .call f_impl_in [a (v I 1), a (c 0), a (c 5)] 100128
 (.ite (nt (v B 100128))
  (.ret [a (.nil true I)])
  (.call f_impl_in [a (ln (v (L T4) 0)), a (c 1), a (c 40)] 100448
   (.ite (nt (v B 100448))
    (.ret [a (.nil true I)])
    (.guard (le (c 0) (ln (v (L T4) 0)))
     (.guard (le (ln (v (L T4) 0)) (c 549755813888))
      (.loop [a (v I 1), a (v (L T4) 0), a (ln (v (L T4) 0)), a (c 0), a (rep (c 0) (z I))]
       (.ite (lt (v I 3) (v I 2))
        (.guard (le (c 0) (v I 3))
         (.guard (lt (v I 3) (ln (v (L T4) 1)))
          (.call f_impl_parts [a (f (ix (v (L T4) 1) (v I 3)))] 582
           (.call f_impl_in [a (f (ix (v (L T4) 1) (v I 3))), a (c 0), a (c 9)] 1222
            (.join
             (.ite (eq (f (ix (v (L T4) 1) (v I 3))) (c 0))
              (.call f_impl_in [a (f (s (ix (v (L T4) 1) (v I 3)))), a (c (-9999)), a (c 9999)] 1734
               (.ite (v B 1734)
                (.ite (eq (f (s (s (ix (v (L T4) 1) (v I 3))))) (c 0))
                 (.jump 0 [a (v I 0), a (v I 584), a (eq (s (s (s (ix (v (L T4) 1) (v I 3))))) (c 0)), a (v (L T4) 1), a (v I 2), a (v I 3), a (v (L I) 4)])
                 (.jump 0 [a (v I 0), a (v I 584), a (k false), a (v (L T4) 1), a (v I 2), a (v I 3), a (v (L I) 4)]))
                (.jump 0 [a (v I 0), a (v I 584), a (k false), a (v (L T4) 1), a (v I 2), a (v I 3), a (v (L I) 4)])))
              (.ite (eq (f (ix (v (L T4) 1) (v I 3))) (c 1))
               (.call f_impl_in [a (f (s (ix (v (L T4) 1) (v I 3)))), a (c 0), a (sub (v I 0) (c 1))] 2118
                (.ite (v B 2118)
                 (.ite (eq (f (s (s (ix (v (L T4) 1) (v I 3))))) (c 0))
                  (.jump 0 [a (v I 0), a (v I 584), a (eq (s (s (s (ix (v (L T4) 1) (v I 3))))) (c 0)), a (v (L T4) 1), a (v I 2), a (v I 3), a (v (L I) 4)])
                  (.jump 0 [a (v I 0), a (v I 584), a (k false), a (v (L T4) 1), a (v I 2), a (v I 3), a (v (L I) 4)]))
                 (.jump 0 [a (v I 0), a (v I 584), a (k false), a (v (L T4) 1), a (v I 2), a (v I 3), a (v (L I) 4)])))
               (.ite (v B 1222)
                (.ite (eq (f (s (ix (v (L T4) 1) (v I 3)))) (c 0))
                 (.call f_impl_in [a (f (s (s (ix (v (L T4) 1) (v I 3))))), a (c 0), a (sub (v I 3) (c 1))] 2502
                  (.ite (v B 2502)
                   (.call f_impl_in [a (s (s (s (ix (v (L T4) 1) (v I 3))))), a (c 0), a (sub (v I 3) (c 1))] 2950
                    (.ite (v B 2950)
                     (.guard (le (c 0) (f (s (s (ix (v (L T4) 1) (v I 3))))))
                      (.guard (lt (f (s (s (ix (v (L T4) 1) (v I 3))))) (ln (v (L I) 4)))
                       (.ite (eq (ix (v (L I) 4) (f (s (s (ix (v (L T4) 1) (v I 3)))))) (v I 583))
                        (.guard (le (c 0) (s (s (s (ix (v (L T4) 1) (v I 3))))))
                         (.guard (lt (s (s (s (ix (v (L T4) 1) (v I 3))))) (ln (v (L I) 4)))
                          (.ite (eq (ix (v (L I) 4) (s (s (s (ix (v (L T4) 1) (v I 3)))))) (v I 583))
                           (.ite (eq (v I 582) (c 2))
                            (.jump 0 [a (v I 0), a (v I 584), a (k true), a (v (L T4) 1), a (v I 2), a (v I 3), a (v (L I) 4)])
                            (.jump 0 [a (v I 0), a (v I 584), a (eq (f (s (s (ix (v (L T4) 1) (v I 3))))) (s (s (s (ix (v (L T4) 1) (v I 3)))))), a (v (L T4) 1), a (v I 2), a (v I 3), a (v (L I) 4)]))
                           (.jump 0 [a (v I 0), a (v I 584), a (k false), a (v (L T4) 1), a (v I 2), a (v I 3), a (v (L I) 4)]))))
                        (.jump 0 [a (v I 0), a (v I 584), a (k false), a (v (L T4) 1), a (v I 2), a (v I 3), a (v (L I) 4)]))))
                     (.jump 0 [a (v I 0), a (v I 584), a (k false), a (v (L T4) 1), a (v I 2), a (v I 3), a (v (L I) 4)])))
                   (.jump 0 [a (v I 0), a (v I 584), a (k false), a (v (L T4) 1), a (v I 2), a (v I 3), a (v (L I) 4)])))
                 (.jump 0 [a (v I 0), a (v I 584), a (k false), a (v (L T4) 1), a (v I 2), a (v I 3), a (v (L I) 4)]))
                (.jump 0 [a (v I 0), a (v I 584), a (k false), a (v (L T4) 1), a (v I 2), a (v I 3), a (v (L I) 4)]))))
             (.ite (nt (v B 2))
              (.ret [a (.nil true I)])
              (.guard (le (ln (v (L I) 6)) (c 549755813888))
               (.guard (le (ln (one (v I 1))) (c 549755813888))
                (.jump 0 [a (v I 0), a (v (L T4) 3), a (v I 4), a (add (v I 5) (c 1)), a (app (v (L I) 6) (one (v I 1)))])))))))))
        (.guard (nt (emp (v (L I) 4)))
         (.ret [a (re true (v (L I) 4))])))))))))
def tr_impl_kindOf : Tr := .call f_impl_kindsOf [a (v (L T4) 0), a (v I 1)] 100192
 (.ite (emp (v (N I) 100192))
  (.ret [a (c 0)])
  (.guard (le (c 0) (sub (lm (v (N I) 100192)) (c 1)))
   (.guard (lt (sub (lm (v (N I) 100192)) (c 1)) (lm (v (N I) 100192)))
    (.ret [a (im (v (N I) 100192) (sub (lm (v (N I) 100192)) (c 1)))]))))
def tr_impl_ruleOk : Tr := .call f_impl_kindOf [a (v (L T4) 0), a (v I 3)] 100320
 (.ite (ne (v I 100320) (c 2))
  (.ret [a (k false)])
  (.ite (ne (ln (v (L I) 1)) (ln (v (L (L T4)) 2)))
   (.ret [a (k false)])
   (.loop [a (v I 3), a (v (L I) 1), a (ln (v (L I) 1)), a (c 0), a (v (L T4) 0), a (v (L I) 1), a (v (L (L T4)) 2)]
    (.ite (lt (v I 3) (v I 2))
     (.join
      (.guard (le (c 0) (v I 3))
       (.guard (lt (v I 3) (ln (v (L I) 1)))
        (.call f_impl_in [a (ix (v (L I) 1) (v I 3)), a (c 0), a (sub (v I 0) (c 1))] 584
         (.ite (nt (v B 584))
          (.ret [a (k false)])
          (.ite (gt (v I 3) (c 0))
           (.guard (le (c 0) (sub (v I 3) (c 1)))
            (.guard (lt (sub (v I 3) (c 1)) (ln (v (L I) 5)))
             (.ite (ge (ix (v (L I) 5) (sub (v I 3) (c 1))) (ix (v (L I) 1) (v I 3)))
              (.ret [a (k false)])
              (.guard (le (c 0) (v I 3))
               (.guard (lt (v I 3) (ln (v (L (L T4)) 6)))
                (.call f_impl_kindOf [a (ix (v (L (L T4)) 6) (v I 3)), a (v I 0)] 2056
                 (.ite (ne (v I 2056) (c 1))
                  (.ret [a (k false)])
                  (.jump 0 [a (v I 0), a (v (L I) 1), a (v I 2), a (v I 3), a (v (L T4) 4), a (v (L I) 5), a (v (L (L T4)) 6)]))))))))
           (.guard (le (c 0) (v I 3))
            (.guard (lt (v I 3) (ln (v (L (L T4)) 6)))
             (.call f_impl_kindOf [a (ix (v (L (L T4)) 6) (v I 3)), a (v I 0)] 2056
              (.ite (ne (v I 2056) (c 1))
               (.ret [a (k false)])
               (.jump 0 [a (v I 0), a (v (L I) 1), a (v I 2), a (v I 3), a (v (L T4) 4), a (v (L I) 5), a (v (L (L T4)) 6)]))))))))))
      (.jump 0 [a (v I 0), a (v (L I) 1), a (v I 2), a (add (v I 3) (c 1)), a (v (L T4) 4), a (v (L I) 5), a (v (L (L T4)) 6)]))
     (.ret [a (k true)])))))
def tr_impl_SystemValid : Tr := .join
 (.call f_impl_in [a (ln (v (L V3) 0)), a (c 1), a (c 5)] 100320
  (.ite (nt (v B 100320))
   (.ret [a (k false)])
   (.ite (gt (ln (v (L TR) 1)) (c 8))
    (.ret [a (k false)])
    (.loop [a (v (L V3) 0), a (ln (v (L V3) 0)), a (c 0), a (v (L V3) 0), a (v (L TR) 1)]
     (.ite (lt (v I 2) (v I 1))
      (.guard (le (c 0) (v I 2))
       (.guard (lt (v I 2) (ln (v (L V3) 0)))
        (.call f_impl_varOk [a (f (ix (v (L V3) 0) (v I 2))), a (f (s (ix (v (L V3) 0) (v I 2)))), a (s (s (ix (v (L V3) 0) (v I 2))))] 774
         (.ite (nt (v B 774))
          (.ite (ge (v I 2) (c 0))
           (.ret [a (k false)])
           (.call f_impl_size [a (v (L V3) 3)] 3014
            (.ite (gt (v I 3014) (c 400))
             (.ret [a (k false)])
             (.jump 1 [a (v (L V3) 3), a (v (L TR) 4)]))))
          (.jump 0 [a (v (L V3) 0), a (v I 1), a (add (v I 2) (c 1)), a (v (L V3) 3), a (v (L TR) 4)])))))
      (.call f_impl_size [a (v (L V3) 3)] 1670
       (.ite (gt (v I 1670) (c 400))
        (.ret [a (k false)])
        (.jump 1 [a (v (L V3) 3), a (v (L TR) 4)]))))))))
 (.loop [a (v (L TR) 1), a (ln (v (L TR) 1)), a (c 0), a (v (L V3) 0), a (v (L TR) 1)]
  (.ite (lt (v I 2) (v I 1))
   (.guard (le (c 0) (v I 2))
    (.guard (lt (v I 2) (ln (v (L TR) 0)))
     (.call f_impl_ruleOk [a (f (ix (v (L TR) 0) (v I 2))), a (f (s (ix (v (L TR) 0) (v I 2)))), a (s (s (ix (v (L TR) 0) (v I 2)))), a (ln (v (L V3) 3))] 966
      (.ite (nt (v B 966))
       (.ret [a (nt (ge (v I 2) (c 0)))])
       (.jump 0 [a (v (L TR) 0), a (v I 1), a (add (v I 2) (c 1)), a (v (L V3) 3), a (v (L TR) 4)])))))
   (.ret [a (nt (ge (c (-1)) (c 0)))])))
def tr_impl_factsOk : Tr := .call f_impl_SystemValid [a (v (L V3) 0), a (v (L TR) 1)] 100192
 (.ite (v B 100192)
  (.ite (le (ln (v (L (L T4)) 2)) (c 4))
   (.loop [a (v (L (L T4)) 2), a (ln (v (L (L T4)) 2)), a (c 0), a (v (L V3) 0), a (v (L TR) 1)]
    (.ite (lt (v I 2) (v I 1))
     (.guard (le (c 0) (v I 2))
      (.guard (lt (v I 2) (ln (v (L (L T4)) 0)))
       (.call f_impl_kindOf [a (ix (v (L (L T4)) 0) (v I 2)), a (ln (v (L V3) 3))] 902
        (.ite (ne (v I 902) (c 2))
         (.ret [a (nt (ge (v I 2) (c 0)))])
         (.jump 0 [a (v (L (L T4)) 0), a (v I 1), a (add (v I 2) (c 1)), a (v (L V3) 3), a (v (L TR) 4)])))))
     (.ret [a (nt (ge (c (-1)) (c 0)))])))
   (.ret [a (k false)]))
  (.ret [a (k false)]))
def tr_impl_lassoOk : Tr := .ite (gt (ln (v (L (L I)) 1)) (c 0))
 (.ret [a (le (add (ln (v (L (L I)) 0)) (ln (v (L (L I)) 1))) (c 500))])
 (.ret [a (k false)])
def tr_slices_Concat_SSint_Sint : Tr := .loop [a (v (L (L (L I))) 0), a (c 0), a (v (L (L (L I))) 0), a (ln (v (L (L (L I))) 0)), a (c 0)]
 (.ite (lt (v I 4) (v I 3))
  (.guard (le (c 0) (v I 4))
   (.guard (lt (v I 4) (ln (v (L (L (L I))) 2)))
    (.ite (lt (add (v I 1) (ln (ix (v (L (L (L I))) 2) (v I 4)))) (c 0))
     (.bad)
     (.jump 0 [a (v (L (L (L I))) 0), a (add (v I 1) (ln (ix (v (L (L (L I))) 2) (v I 4)))), a (v (L (L (L I))) 2), a (v I 3), a (add (v I 4) (c 1))]))))
  (.guard (le (c 0) (v I 1))
   (.guard (le (v I 1) (c 549755813888))
    (.loop [a (v (L (L (L I))) 0), a (ln (v (L (L (L I))) 0)), a (c 0), a (nl (L I))]
     (.ite (lt (v I 2) (v I 1))
      (.guard (le (c 0) (v I 2))
       (.guard (lt (v I 2) (ln (v (L (L (L I))) 0)))
        (.guard (le (ln (v (L (L I)) 3)) (c 549755813888))
         (.guard (le (ln (ix (v (L (L (L I))) 0) (v I 2))) (c 549755813888))
          (.jump 0 [a (v (L (L (L I))) 0), a (v I 1), a (add (v I 2) (c 1)), a (app (v (L (L I)) 3) (ix (v (L (L (L I))) 0) (v I 2)))])))))
      (.ret [a (v (L (L I)) 3)]))))))
def tr_impl_inRange : Tr := .ite (ne (ln (v (L I) 2)) (ln (v (L V3) 0)))
 (.ret [a (k false)])
 (.loop [a (v (L I) 2), a (v (L V3) 0), a (ln (v (L V3) 0)), a (c 0)]
  (.ite (lt (v I 3) (v I 2))
   (.guard (le (c 0) (v I 3))
    (.guard (lt (v I 3) (ln (v (L V3) 1)))
     (.guard (le (c 0) (v I 3))
      (.guard (lt (v I 3) (ln (v (L I) 0)))
       (.call f_impl_in [a (ix (v (L I) 0) (v I 3)), a (f (ix (v (L V3) 1) (v I 3))), a (f (s (ix (v (L V3) 1) (v I 3))))] 964
        (.ite (nt (v B 964))
         (.ret [a (k false)])
         (.jump 0 [a (v (L I) 0), a (v (L V3) 1), a (v I 2), a (add (v I 3) (c 1))])))))))
   (.ret [a (k true)])))
def tr_impl_clone_int : Tr := .ite (eq (ln (v (L I) 0)) (c 0))
 (.ret [a (nl I)])
 (.guard (le (c 0) (ln (v (L I) 0)))
  (.guard (le (ln (v (L I) 0)) (c 549755813888))
   (.ret [a (over (rep (ln (v (L I) 0)) (z I)) (v (L I) 0))])))
def tr_impl_first : Tr := .loop [a (v (L V3) 0), a (ln (v (L V3) 0)), a (c 0), a (nl I)]
 (.ite (lt (v I 2) (v I 1))
  (.guard (le (c 0) (v I 2))
   (.guard (lt (v I 2) (ln (v (L V3) 0)))
    (.guard (le (ln (v (L I) 3)) (c 549755813888))
     (.guard (le (ln (one (s (s (ix (v (L V3) 0) (v I 2)))))) (c 549755813888))
      (.jump 0 [a (v (L V3) 0), a (v I 1), a (add (v I 2) (c 1)), a (app (v (L I) 3) (one (s (s (ix (v (L V3) 0) (v I 2))))))])))))
  (.call f_impl_clone_int [a (v (L I) 3)] 133
   (.ret [a (v (L I) 133)])))
def tr_slices_Equal_Sint_int : Tr := .ite (ne (ln (v (L I) 0)) (ln (v (L I) 1)))
 (.ret [a (k false)])
 (.loop [a (v (L I) 0), a (v (L I) 1), a (ln (v (L I) 0)), a (c 0)]
  (.ite (lt (v I 3) (v I 2))
   (.guard (le (c 0) (v I 3))
    (.guard (lt (v I 3) (ln (v (L I) 0)))
     (.guard (le (c 0) (v I 3))
      (.guard (lt (v I 3) (ln (v (L I) 1)))
       (.ite (ne (ix (v (L I) 0) (v I 3)) (ix (v (L I) 1) (v I 3)))
        (.ret [a (k false)])
        (.jump 0 [a (v (L I) 0), a (v (L I) 1), a (v I 2), a (add (v I 3) (c 1))]))))))
   (.ret [a (k true)])))
def tr_impl_held : Tr := .ret [a (.o2 (.mx .i64) (c (-9999)) (.o2 (.mn .i64) (c 9999) (v I 0)))]
def tr_impl_bit : Tr := .ite (v B 0)
 (.ret [a (c 1)])
 (.ret [a (c 0)])
def tr_impl_do : Tr := .ite (eq (v I 0) (c 2))
 (.call f_impl_held [a (add (v I 1) (v I 2))] 100448
  (.ret [a (v I 100448)]))
 (.ite (eq (v I 0) (c 3))
  (.call f_impl_held [a (sub (v I 1) (v I 2))] 100576
   (.ret [a (v I 100576)]))
  (.ite (eq (v I 0) (c 4))
   (.call f_impl_held [a (mul (v I 1) (v I 2))] 100704
    (.ret [a (v I 100704)]))
   (.ite (eq (v I 0) (c 5))
    (.call f_impl_bit [a (lt (v I 1) (v I 2))] 100832
     (.ret [a (v I 100832)]))
    (.ite (eq (v I 0) (c 6))
     (.call f_impl_bit [a (eq (v I 1) (v I 2))] 100960
      (.ret [a (v I 100960)]))
     (.ite (eq (v I 0) (c 7))
      (.ret [a (sub (c 1) (v I 1))])
      (.ite (eq (v I 0) (c 8))
       (.ret [a (.o2 (.mn .i64) (v I 1) (v I 2))])
       (.ret [a (.o2 (.mx .i64) (v I 1) (v I 2))])))))))
def tr_impl_eval : Tr := .guard (le (c 0) (ln (v (L T4) 0)))
 (.guard (le (ln (v (L T4) 0)) (c 549755813888))
  (.loop [a (v (L I) 1), a (v (L T4) 0), a (ln (v (L T4) 0)), a (c 0), a (rep (ln (v (L T4) 0)) (z I))]
   (.ite (lt (v I 3) (v I 2))
    (.join
     (.guard (le (c 0) (v I 3))
      (.guard (lt (v I 3) (ln (v (L T4) 1)))
       (.ite (eq (f (ix (v (L T4) 1) (v I 3))) (c 0))
        (.guard (le (c 0) (v I 3))
         (.guard (lt (v I 3) (ln (v (L I) 4)))
          (.jump 0 [a (v (L I) 0), a (v (L T4) 1), a (v I 2), a (v I 3), a (st (v (L I) 4) (v I 3) (f (s (ix (v (L T4) 1) (v I 3)))))])))
        (.ite (eq (f (ix (v (L T4) 1) (v I 3))) (c 1))
         (.guard (le (c 0) (f (s (ix (v (L T4) 1) (v I 3)))))
          (.guard (lt (f (s (ix (v (L T4) 1) (v I 3)))) (ln (v (L I) 0)))
           (.guard (le (c 0) (v I 3))
            (.guard (lt (v I 3) (ln (v (L I) 4)))
             (.jump 0 [a (v (L I) 0), a (v (L T4) 1), a (v I 2), a (v I 3), a (st (v (L I) 4) (v I 3) (ix (v (L I) 0) (f (s (ix (v (L T4) 1) (v I 3))))))])))))
         (.guard (le (c 0) (f (s (s (ix (v (L T4) 1) (v I 3))))))
          (.guard (lt (f (s (s (ix (v (L T4) 1) (v I 3))))) (ln (v (L I) 4)))
           (.guard (le (c 0) (s (s (s (ix (v (L T4) 1) (v I 3))))))
            (.guard (lt (s (s (s (ix (v (L T4) 1) (v I 3))))) (ln (v (L I) 4)))
             (.call f_impl_do [a (f (ix (v (L T4) 1) (v I 3))), a (ix (v (L I) 4) (f (s (s (ix (v (L T4) 1) (v I 3)))))), a (ix (v (L I) 4) (s (s (s (ix (v (L T4) 1) (v I 3))))))] 1734
              (.guard (le (c 0) (v I 3))
               (.guard (lt (v I 3) (ln (v (L I) 4)))
                (.jump 0 [a (v (L I) 0), a (v (L T4) 1), a (v I 2), a (v I 3), a (st (v (L I) 4) (v I 3) (v I 1734))]))))))))))))
     (.jump 0 [a (v (L I) 0), a (v (L T4) 1), a (v I 2), a (add (v I 3) (c 1)), a (v (L I) 4)]))
    (.guard (le (c 0) (sub (ln (v (L I) 4)) (c 1)))
     (.guard (lt (sub (ln (v (L I) 4)) (c 1)) (ln (v (L I) 4)))
      (.ret [a (ix (v (L I) 4) (sub (ln (v (L I) 4)) (c 1)))]))))))
def tr_impl_use : Tr := .guard (le (c 0) (v I 3))
 (.guard (lt (v I 3) (ln (v (L TR) 1)))
  (.call f_impl_eval [a (f (ix (v (L TR) 1) (v I 3))), a (v (L I) 2)] 100832
   (.ite (eq (v I 100832) (c 0))
    (.ret [a (nl I), a (k false)])
    (.call f_impl_clone_int [a (v (L I) 2)] 101024
     (.loop [a (v (L I) 2), a (f (s (ix (v (L TR) 1) (v I 3)))), a (ln (f (s (ix (v (L TR) 1) (v I 3))))), a (c 0), a (v (L V3) 0), a (v (L TR) 1), a (f (ix (v (L TR) 1) (v I 3))), a (f (s (ix (v (L TR) 1) (v I 3)))), a (s (s (ix (v (L TR) 1) (v I 3)))), a (v (L I) 101024)]
      (.ite (lt (v I 3) (v I 2))
       (.guard (le (c 0) (v I 3))
        (.guard (lt (v I 3) (ln (v (L I) 1)))
         (.guard (le (c 0) (v I 3))
          (.guard (lt (v I 3) (ln (v (L (L T4)) 8)))
           (.call f_impl_eval [a (ix (v (L (L T4)) 8) (v I 3)), a (v (L I) 0)] 909
            (.guard (le (c 0) (ix (v (L I) 1) (v I 3)))
             (.guard (lt (ix (v (L I) 1) (v I 3)) (ln (v (L I) 9)))
              (.jump 0 [a (v (L I) 0), a (v (L I) 1), a (v I 2), a (add (v I 3) (c 1)), a (v (L V3) 4), a (v (L TR) 5), a (v (L T4) 6), a (v (L I) 7), a (v (L (L T4)) 8), a (st (v (L I) 9) (ix (v (L I) 1) (v I 3)) (v I 909))]))))))))
       (.call f_impl_inRange [a (v (L V3) 4), a (v (L TR) 5), a (v (L I) 9)] 205
        (.ite (nt (v B 205))
         (.ret [a (nl I), a (k false)])
         (.ret [a (v (L I) 9), a (k true)])))))))))
def tr_impl_usableIn : Tr := .loop [a (v (L I) 2), a (ln (v (L TR) 1)), a (c 0), a (v (L V3) 0), a (v (L TR) 1), a (nl I)]
 (.ite (lt (v I 2) (v I 1))
  (.join
   (.call f_impl_use [a (v (L V3) 3), a (v (L TR) 4), a (v (L I) 0), a (v I 2)] 392
    (.ite (v B 393)
     (.guard (le (ln (v (L I) 5)) (c 549755813888))
      (.guard (le (ln (one (v I 2))) (c 549755813888))
       (.jump 0 [a (v (L I) 0), a (v I 1), a (v I 2), a (v (L V3) 3), a (v (L TR) 4), a (app (v (L I) 5) (one (v I 2)))])))
     (.jump 0 [a (v (L I) 0), a (v I 1), a (v I 2), a (v (L V3) 3), a (v (L TR) 4), a (v (L I) 5)])))
   (.jump 0 [a (v (L I) 0), a (v I 1), a (add (v I 2) (c 1)), a (v (L V3) 3), a (v (L TR) 4), a (v (L I) 5)]))
  (.call f_impl_clone_int [a (v (L I) 5)] 136
   (.ret [a (v (L I) 136)])))
def tr_impl_ruleBetween : Tr := .loop [a (v (L I) 2), a (v (L I) 3), a (ln (v (L TR) 1)), a (c 0), a (v (L V3) 0), a (v (L TR) 1)]
 (.ite (lt (v I 3) (v I 2))
  (.join
   (.call f_impl_use [a (v (L V3) 4), a (v (L TR) 5), a (v (L I) 0), a (v I 3)] 391
    (.ite (v B 392)
     (.call f_slices_Equal_Sint_int [a (v (L I) 391), a (v (L I) 1)] 1031
      (.ite (v B 1031)
       (.ret [a (v I 3)])
       (.jump 0 [a (v (L I) 0), a (v (L I) 1), a (v I 2), a (v I 3), a (v (L V3) 4), a (v (L TR) 5)])))
     (.jump 0 [a (v (L I) 0), a (v (L I) 1), a (v I 2), a (v I 3), a (v (L V3) 4), a (v (L TR) 5)])))
   (.jump 0 [a (v (L I) 0), a (v (L I) 1), a (v I 2), a (add (v I 3) (c 1)), a (v (L V3) 4), a (v (L TR) 5)]))
  (.ret [a (c (-1))]))
def tr_impl_follows : Tr := .call f_impl_usableIn [a (v (L V3) 0), a (v (L TR) 1), a (v (L I) 2)] 100256
 (.ite (eq (ln (v (L I) 100256)) (c 0))
  (.call f_slices_Equal_Sint_int [a (v (L I) 2), a (v (L I) 3)] 100576
   (.ret [a (v B 100576)]))
  (.call f_impl_ruleBetween [a (v (L V3) 0), a (v (L TR) 1), a (v (L I) 2), a (v (L I) 3)] 100640
   (.ret [a (ge (v I 100640) (c 0))])))
def tr_impl_LassoValid : Tr := .call f_impl_SystemValid [a (v (L V3) 0), a (v (L TR) 1)] 100192
 (.ite (nt (v B 100192))
  (.ret [a (k false)])
  (.call f_impl_lassoOk [a (v (L (L I)) 2), a (v (L (L I)) 3)] 100512
   (.ite (nt (v B 100512))
    (.ret [a (k false)])
    (.guard (le (c 1) (ln (re false (v (L (L I)) 3))))
     (.call f_slices_Concat_SSint_Sint [a (app (one (v (L (L I)) 2)) (app (one (v (L (L I)) 3)) (one (take (re false (v (L (L I)) 3)) (c 1)))))] 101024
      (.loop [a (ln (v (L (L I)) 101024)), a (c 0), a (v (L V3) 0), a (v (L TR) 1), a (v (L (L I)) 101024)]
       (.ite (lt (v I 1) (v I 0))
        (.join
         (.guard (le (c 0) (v I 1))
          (.guard (lt (v I 1) (ln (v (L (L I)) 4)))
           (.call f_impl_inRange [a (v (L V3) 2), a (v (L TR) 3), a (ix (v (L (L I)) 4) (v I 1))] 519
            (.ite (nt (v B 519))
             (.ret [a (k false)])
             (.ite (eq (v I 1) (c 0))
              (.call f_impl_first [a (v (L V3) 2), a (v (L TR) 3)] 1031
               (.call f_slices_Equal_Sint_int [a (ix (v (L (L I)) 4) (v I 1)), a (v (L I) 1031)] 1095
                (.ite (nt (v B 1095))
                 (.ret [a (k false)])
                 (.ite (gt (v I 1) (c 0))
                  (.guard (le (c 0) (sub (v I 1) (c 1)))
                   (.guard (lt (sub (v I 1) (c 1)) (ln (v (L (L I)) 4)))
                    (.call f_impl_follows [a (v (L V3) 2), a (v (L TR) 3), a (ix (v (L (L I)) 4) (sub (v I 1) (c 1))), a (ix (v (L (L I)) 4) (v I 1))] 2055
                     (.ite (nt (v B 2055))
                      (.ret [a (k false)])
                      (.jump 0 [a (v I 0), a (v I 1), a (v (L V3) 2), a (v (L TR) 3), a (v (L (L I)) 4)])))))
                  (.jump 0 [a (v I 0), a (v I 1), a (v (L V3) 2), a (v (L TR) 3), a (v (L (L I)) 4)])))))
              (.ite (gt (v I 1) (c 0))
               (.guard (le (c 0) (sub (v I 1) (c 1)))
                (.guard (lt (sub (v I 1) (c 1)) (ln (v (L (L I)) 4)))
                 (.call f_impl_follows [a (v (L V3) 2), a (v (L TR) 3), a (ix (v (L (L I)) 4) (sub (v I 1) (c 1))), a (ix (v (L (L I)) 4) (v I 1))] 2055
                  (.ite (nt (v B 2055))
                   (.ret [a (k false)])
                   (.jump 0 [a (v I 0), a (v I 1), a (v (L V3) 2), a (v (L TR) 3), a (v (L (L I)) 4)])))))
               (.jump 0 [a (v I 0), a (v I 1), a (v (L V3) 2), a (v (L TR) 3), a (v (L (L I)) 4)])))))))
         (.jump 0 [a (v I 0), a (add (v I 1) (c 1)), a (v (L V3) 2), a (v (L TR) 3), a (v (L (L I)) 4)]))
        (.ret [a (k true)]))))))))
def tr_impl_TimesValid : Tr := .call f_impl_in [a (v I 1), a (c 0), a (c 4)] 100128
 (.ite (nt (v B 100128))
  (.ret [a (k false)])
  (.call f_impl_in [a (ln (v (L T4) 0)), a (c 1), a (c 24)] 100448
   (.ite (nt (v B 100448))
    (.ret [a (k false)])
    (.loop [a (v I 1), a (v (L T4) 0), a (ln (v (L T4) 0)), a (c 0)]
     (.ite (lt (v I 3) (v I 2))
      (.guard (le (c 0) (v I 3))
       (.guard (lt (v I 3) (ln (v (L T4) 1)))
        (.call f_impl_in [a (f (ix (v (L T4) 1) (v I 3))), a (c 0), a (c 7)] 580
         (.join
          (.ite (eq (f (ix (v (L T4) 1) (v I 3))) (c 0))
           (.jump 0 [a (v I 0), a (.o2 .and (eq (f (ix (v (L T4) 1) (v I 3))) (c 0)) (.o2 .and (eq (f (s (ix (v (L T4) 1) (v I 3)))) (c 0)) (.o2 .and (eq (f (s (s (ix (v (L T4) 1) (v I 3))))) (c 0)) (eq (s (s (s (ix (v (L T4) 1) (v I 3))))) (c 0))))), a (v (L T4) 1), a (v I 2), a (v I 3)])
           (.ite (eq (f (ix (v (L T4) 1) (v I 3))) (c 1))
            (.call f_impl_in [a (f (s (ix (v (L T4) 1) (v I 3)))), a (c 0), a (sub (v I 0) (c 1))] 1348
             (.ite (v B 1348)
              (.ite (eq (f (s (s (ix (v (L T4) 1) (v I 3))))) (c 0))
               (.jump 0 [a (v I 0), a (eq (s (s (s (ix (v (L T4) 1) (v I 3))))) (c 0)), a (v (L T4) 1), a (v I 2), a (v I 3)])
               (.jump 0 [a (v I 0), a (k false), a (v (L T4) 1), a (v I 2), a (v I 3)]))
              (.jump 0 [a (v I 0), a (k false), a (v (L T4) 1), a (v I 2), a (v I 3)])))
            (.ite (v B 580)
             (.ite (eq (f (s (ix (v (L T4) 1) (v I 3)))) (c 0))
              (.call f_impl_in [a (f (s (s (ix (v (L T4) 1) (v I 3))))), a (c 0), a (sub (v I 3) (c 1))] 1796
               (.ite (v B 1796)
                (.call f_impl_in [a (s (s (s (ix (v (L T4) 1) (v I 3))))), a (c 0), a (sub (v I 3) (c 1))] 2244
                 (.ite (v B 2244)
                  (.ite (eq (f (s (s (ix (v (L T4) 1) (v I 3))))) (s (s (s (ix (v (L T4) 1) (v I 3))))))
                   (.jump 0 [a (v I 0), a (k true), a (v (L T4) 1), a (v I 2), a (v I 3)])
                   (.ite (ne (f (ix (v (L T4) 1) (v I 3))) (c 2))
                    (.jump 0 [a (v I 0), a (ne (f (ix (v (L T4) 1) (v I 3))) (c 5)), a (v (L T4) 1), a (v I 2), a (v I 3)])
                    (.jump 0 [a (v I 0), a (k false), a (v (L T4) 1), a (v I 2), a (v I 3)])))
                  (.jump 0 [a (v I 0), a (k false), a (v (L T4) 1), a (v I 2), a (v I 3)])))
                (.jump 0 [a (v I 0), a (k false), a (v (L T4) 1), a (v I 2), a (v I 3)])))
              (.jump 0 [a (v I 0), a (k false), a (v (L T4) 1), a (v I 2), a (v I 3)]))
             (.jump 0 [a (v I 0), a (k false), a (v (L T4) 1), a (v I 2), a (v I 3)]))))
          (.ite (nt (v B 1))
           (.ret [a (k false)])
           (.jump 0 [a (v I 0), a (v (L T4) 2), a (v I 3), a (add (v I 4) (c 1))]))))))
      (.ret [a (k true)]))))))
def tr_impl_letters : Tr := .guard (le (c 0) (ln (v (L (L T4)) 0)))
 (.guard (le (ln (v (L (L T4)) 0)) (c 549755813888))
  (.loop [a (v (L I) 1), a (v (L (L T4)) 0), a (ln (v (L (L T4)) 0)), a (c 0), a (rep (ln (v (L (L T4)) 0)) (z I))]
   (.ite (lt (v I 3) (v I 2))
    (.guard (le (c 0) (v I 3))
     (.guard (lt (v I 3) (ln (v (L (L T4)) 1)))
      (.call f_impl_eval [a (ix (v (L (L T4)) 1) (v I 3)), a (v (L I) 0)] 646
       (.guard (le (c 0) (v I 3))
        (.guard (lt (v I 3) (ln (v (L I) 4)))
         (.jump 0 [a (v (L I) 0), a (v (L (L T4)) 1), a (v I 2), a (add (v I 3) (c 1)), a (st (v (L I) 4) (v I 3) (v I 646))]))))))
    (.ret [a (v (L I) 4)]))))
def tr_impl_word : Tr := .loop [a (v (L (L T4)) 0), a (v (L (L I)) 1), a (ln (v (L (L I)) 1)), a (c 0), a (nl (L I))]
 (.ite (lt (v I 3) (v I 2))
  (.guard (le (c 0) (v I 3))
   (.guard (lt (v I 3) (ln (v (L (L I)) 1)))
    (.call f_impl_letters [a (v (L (L T4)) 0), a (ix (v (L (L I)) 1) (v I 3))] 454
     (.guard (le (ln (v (L (L I)) 4)) (c 549755813888))
      (.guard (le (ln (one (v (L I) 454))) (c 549755813888))
       (.jump 0 [a (v (L (L T4)) 0), a (v (L (L I)) 1), a (v I 2), a (add (v I 3) (c 1)), a (app (v (L (L I)) 4) (one (v (L I) 454)))]))))))
  (.ret [a (v (L (L I)) 4)]))
def tr_impl_timesOn : Tr := .call f_slices_Concat_SSint_Sint [a (app (one (v (L (L I)) 1)) (one (v (L (L I)) 2)))] 100320
 (.guard (le (c 0) (ln (v (L T4) 0)))
  (.guard (le (ln (v (L T4) 0)) (c 549755813888))
   (.loop [a (v (L T4) 0), a (ln (v (L T4) 0)), a (c 0), a (v (L (L I)) 100320), a (ln (v (L (L I)) 100320)), a (v (L (L I)) 1), a (rep (ln (v (L T4) 0)) (z (L I)))]
    (.ite (lt (v I 2) (v I 1))
     (.guard (le (c 0) (v I 2))
      (.guard (lt (v I 2) (ln (v (L T4) 0)))
       (.guard (le (c 0) (v I 4))
        (.guard (le (v I 4) (c 549755813888))
         (.join
          (.ite (eq (f (ix (v (L T4) 0) (v I 2))) (c 7))
           (.jump 0 [a (v I 2), a (c 1), a (v (L T4) 0), a (v I 1), a (v I 2), a (v (L (L I)) 3), a (v I 4), a (v (L (L I)) 5), a (v (L (L I)) 6), a (rep (v I 4) (z I)), a (f (ix (v (L T4) 0) (v I 2))), a (f (s (ix (v (L T4) 0) (v I 2)))), a (f (s (s (ix (v (L T4) 0) (v I 2))))), a (s (s (s (ix (v (L T4) 0) (v I 2)))))])
           (.jump 0 [a (v I 2), a (c 0), a (v (L T4) 0), a (v I 1), a (v I 2), a (v (L (L I)) 3), a (v I 4), a (v (L (L I)) 5), a (v (L (L I)) 6), a (rep (v I 4) (z I)), a (f (ix (v (L T4) 0) (v I 2))), a (f (s (ix (v (L T4) 0) (v I 2)))), a (f (s (s (ix (v (L T4) 0) (v I 2))))), a (s (s (s (ix (v (L T4) 0) (v I 2)))))]))
          (.loop [a (v I 0), a (v I 1), a (v (L T4) 2), a (v I 3), a (v I 4), a (ln (v (L I) 9)), a (c 0), a (v (L (L I)) 5), a (v I 6), a (v (L (L I)) 7), a (v (L (L I)) 8), a (v (L I) 9), a (v I 10), a (v I 11), a (v I 12), a (v I 13)]
           (.ite (lt (v I 6) (v I 5))
            (.guard (le (c 0) (v I 6))
             (.guard (lt (v I 6) (ln (v (L I) 11)))
              (.jump 0 [a (v I 0), a (v I 1), a (v (L T4) 2), a (v I 3), a (v I 4), a (v I 5), a (add (v I 6) (c 1)), a (v (L (L I)) 7), a (v I 8), a (v (L (L I)) 9), a (v (L (L I)) 10), a (st (v (L I) 11) (v I 6) (v I 1)), a (v I 12), a (v I 13), a (v I 14), a (v I 15)])))
            (.loop [a (v I 0), a (v (L T4) 2), a (v I 3), a (v I 4), a (c 0), a (v (L (L I)) 7), a (v I 8), a (v (L (L I)) 9), a (v (L (L I)) 10), a (v (L I) 11), a (v I 12), a (v I 13), a (v I 14), a (v I 15)]
             (.ite (lt (v I 4) (c 2))
              (.loop [a (v I 0), a (sub (v I 6) (c 1)), a (v (L T4) 1), a (v I 2), a (v I 3), a (v I 4), a (v (L (L I)) 5), a (v I 6), a (v (L (L I)) 7), a (v (L (L I)) 8), a (v (L I) 9), a (v I 10), a (v I 11), a (v I 12), a (v I 13)]
               (.ite (ge (v I 1) (c 0))
                (.join
                 (.join
                  (.ite (gt (v I 11) (c 1))
                   (.guard (le (c 0) (v I 13))
                    (.guard (lt (v I 13) (ln (v (L (L I)) 9)))
                     (.guard (le (c 0) (v I 1))
                      (.guard (lt (v I 1) (ln (ix (v (L (L I)) 9) (v I 13))))
                       (.guard (le (c 0) (v I 14))
                        (.guard (lt (v I 14) (ln (v (L (L I)) 9)))
                         (.guard (le (c 0) (v I 1))
                          (.guard (lt (v I 1) (ln (ix (v (L (L I)) 9) (v I 14))))
                           (.jump 0 [a (v I 1), a (ix (ix (v (L (L I)) 9) (v I 13)) (v I 1)), a (ix (ix (v (L (L I)) 9) (v I 14)) (v I 1)), a (v I 0), a (v I 1), a (v (L T4) 2), a (v I 3), a (v I 4), a (v I 5), a (v I 1), a (v I 11), a (v I 12), a (v I 13), a (v I 14), a (v (L (L I)) 9), a (v (L (L I)) 6), a (v I 7), a (v (L (L I)) 8), a (v (L I) 10)])))))))))
                   (.jump 0 [a (v I 1), a (c 0), a (c 0), a (v I 0), a (v I 1), a (v (L T4) 2), a (v I 3), a (v I 4), a (v I 5), a (v I 1), a (v I 11), a (v I 12), a (v I 13), a (v I 14), a (v (L (L I)) 9), a (v (L (L I)) 6), a (v I 7), a (v (L (L I)) 8), a (v (L I) 10)]))
                  (.ite (eq (v I 10) (c 0))
                   (.guard (le (c 0) (v I 9))
                    (.guard (lt (v I 9) (ln (v (L I) 18)))
                     (.join
                      (.jump 0 [a (v I 3), a (v I 4), a (v (L T4) 5), a (v I 6), a (v I 7), a (v I 8), a (v (L (L I)) 15), a (v I 16), a (v (L (L I)) 17), a (v (L (L I)) 14), a (st (v (L I) 18) (v I 9) (c 1)), a (v I 10), a (v I 11), a (v I 12), a (v I 13)])
                      (.jump 0 [a (v I 0), a (v I 1), a (v (L T4) 2), a (v I 3), a (v I 4), a (v I 5), a (v (L (L I)) 6), a (v I 7), a (v (L (L I)) 8), a (v (L (L I)) 9), a (v (L I) 10), a (v I 11), a (v I 12), a (v I 13), a (v I 14)]))))
                   (.ite (eq (v I 10) (c 1))
                    (.guard (le (c 0) (v I 0))
                     (.guard (lt (v I 0) (ln (v (L (L I)) 15)))
                      (.guard (le (c 0) (v I 11))
                       (.guard (lt (v I 11) (ln (ix (v (L (L I)) 15) (v I 0))))
                        (.guard (le (c 0) (v I 9))
                         (.guard (lt (v I 9) (ln (v (L I) 18)))
                          (.join
                           (.jump 0 [a (v I 3), a (v I 4), a (v (L T4) 5), a (v I 6), a (v I 7), a (v I 8), a (v (L (L I)) 15), a (v I 16), a (v (L (L I)) 17), a (v (L (L I)) 14), a (st (v (L I) 18) (v I 9) (ix (ix (v (L (L I)) 15) (v I 0)) (v I 11))), a (v I 10), a (v I 11), a (v I 12), a (v I 13)])
                           (.jump 0 [a (v I 0), a (v I 1), a (v (L T4) 2), a (v I 3), a (v I 4), a (v I 5), a (v (L (L I)) 6), a (v I 7), a (v (L (L I)) 8), a (v (L (L I)) 9), a (v (L I) 10), a (v I 11), a (v I 12), a (v I 13), a (v I 14)]))))))))
                    (.ite (eq (v I 10) (c 2))
                     (.guard (le (c 0) (v I 9))
                      (.guard (lt (v I 9) (ln (v (L I) 18)))
                       (.join
                        (.jump 0 [a (v I 3), a (v I 4), a (v (L T4) 5), a (v I 6), a (v I 7), a (v I 8), a (v (L (L I)) 15), a (v I 16), a (v (L (L I)) 17), a (v (L (L I)) 14), a (st (v (L I) 18) (v I 9) (sub (c 1) (v I 1))), a (v I 10), a (v I 11), a (v I 12), a (v I 13)])
                        (.jump 0 [a (v I 0), a (v I 1), a (v (L T4) 2), a (v I 3), a (v I 4), a (v I 5), a (v (L (L I)) 6), a (v I 7), a (v (L (L I)) 8), a (v (L (L I)) 9), a (v (L I) 10), a (v I 11), a (v I 12), a (v I 13), a (v I 14)]))))
                     (.ite (eq (v I 10) (c 3))
                      (.guard (le (c 0) (v I 9))
                       (.guard (lt (v I 9) (ln (v (L I) 18)))
                        (.join
                         (.jump 0 [a (v I 3), a (v I 4), a (v (L T4) 5), a (v I 6), a (v I 7), a (v I 8), a (v (L (L I)) 15), a (v I 16), a (v (L (L I)) 17), a (v (L (L I)) 14), a (st (v (L I) 18) (v I 9) (ar .and (v I 1) (v I 2))), a (v I 10), a (v I 11), a (v I 12), a (v I 13)])
                         (.jump 0 [a (v I 0), a (v I 1), a (v (L T4) 2), a (v I 3), a (v I 4), a (v I 5), a (v (L (L I)) 6), a (v I 7), a (v (L (L I)) 8), a (v (L (L I)) 9), a (v (L I) 10), a (v I 11), a (v I 12), a (v I 13), a (v I 14)]))))
                      (.ite (eq (v I 10) (c 4))
                       (.guard (le (c 0) (v I 9))
                        (.guard (lt (v I 9) (ln (v (L I) 18)))
                         (.join
                          (.jump 0 [a (v I 3), a (v I 4), a (v (L T4) 5), a (v I 6), a (v I 7), a (v I 8), a (v (L (L I)) 15), a (v I 16), a (v (L (L I)) 17), a (v (L (L I)) 14), a (st (v (L I) 18) (v I 9) (ar .or (v I 1) (v I 2))), a (v I 10), a (v I 11), a (v I 12), a (v I 13)])
                          (.jump 0 [a (v I 0), a (v I 1), a (v (L T4) 2), a (v I 3), a (v I 4), a (v I 5), a (v (L (L I)) 6), a (v I 7), a (v (L (L I)) 8), a (v (L (L I)) 9), a (v (L I) 10), a (v I 11), a (v I 12), a (v I 13), a (v I 14)]))))
                       (.ite (eq (v I 10) (c 5))
                        (.guard (le (c 0) (v I 12))
                         (.guard (lt (v I 12) (ln (v (L (L I)) 14)))
                          (.ite (eq (add (v I 0) (c 1)) (v I 16))
                           (.guard (le (c 0) (ln (v (L (L I)) 17)))
                            (.guard (lt (ln (v (L (L I)) 17)) (ln (ix (v (L (L I)) 14) (v I 12))))
                             (.join
                              (.jump 0 [a (ix (ix (v (L (L I)) 14) (v I 12)) (ln (v (L (L I)) 17))), a (v I 3), a (v I 4), a (v (L T4) 5), a (v I 6), a (v I 7), a (v I 8), a (v I 9), a (v (L (L I)) 15), a (v I 16), a (v (L (L I)) 17), a (v (L (L I)) 14), a (v (L I) 18), a (v I 10), a (v I 11), a (v I 12), a (v I 13)])
                              (.guard (le (c 0) (v I 7))
                               (.guard (lt (v I 7) (ln (v (L I) 12)))
                                (.join
                                 (.jump 0 [a (v I 1), a (v I 2), a (v (L T4) 3), a (v I 4), a (v I 5), a (v I 6), a (v (L (L I)) 8), a (v I 9), a (v (L (L I)) 10), a (v (L (L I)) 11), a (st (v (L I) 12) (v I 7) (v I 0)), a (v I 13), a (v I 14), a (v I 15), a (v I 16)])
                                 (.jump 0 [a (v I 0), a (v I 1), a (v (L T4) 2), a (v I 3), a (v I 4), a (v I 5), a (v (L (L I)) 6), a (v I 7), a (v (L (L I)) 8), a (v (L (L I)) 9), a (v (L I) 10), a (v I 11), a (v I 12), a (v I 13), a (v I 14)])))))))
                           (.guard (le (c 0) (add (v I 0) (c 1)))
                            (.guard (lt (add (v I 0) (c 1)) (ln (ix (v (L (L I)) 14) (v I 12))))
                             (.join
                              (.jump 0 [a (ix (ix (v (L (L I)) 14) (v I 12)) (add (v I 0) (c 1))), a (v I 3), a (v I 4), a (v (L T4) 5), a (v I 6), a (v I 7), a (v I 8), a (v I 9), a (v (L (L I)) 15), a (v I 16), a (v (L (L I)) 17), a (v (L (L I)) 14), a (v (L I) 18), a (v I 10), a (v I 11), a (v I 12), a (v I 13)])
                              (.guard (le (c 0) (v I 7))
                               (.guard (lt (v I 7) (ln (v (L I) 12)))
                                (.join
                                 (.jump 0 [a (v I 1), a (v I 2), a (v (L T4) 3), a (v I 4), a (v I 5), a (v I 6), a (v (L (L I)) 8), a (v I 9), a (v (L (L I)) 10), a (v (L (L I)) 11), a (st (v (L I) 12) (v I 7) (v I 0)), a (v I 13), a (v I 14), a (v I 15), a (v I 16)])
                                 (.jump 0 [a (v I 0), a (v I 1), a (v (L T4) 2), a (v I 3), a (v I 4), a (v I 5), a (v (L (L I)) 6), a (v I 7), a (v (L (L I)) 8), a (v (L (L I)) 9), a (v (L I) 10), a (v I 11), a (v I 12), a (v I 13), a (v I 14)]))))))))))
                        (.ite (eq (v I 10) (c 6))
                         (.ite (eq (add (v I 0) (c 1)) (v I 16))
                          (.guard (le (c 0) (ln (v (L (L I)) 17)))
                           (.guard (lt (ln (v (L (L I)) 17)) (ln (v (L I) 18)))
                            (.join
                             (.jump 0 [a (ar .or (v I 2) (ar .and (v I 1) (ix (v (L I) 18) (ln (v (L (L I)) 17))))), a (v I 3), a (v I 4), a (v (L T4) 5), a (v I 6), a (v I 7), a (v I 8), a (v I 9), a (v (L (L I)) 15), a (v I 16), a (v (L (L I)) 17), a (v (L (L I)) 14), a (v (L I) 18), a (v I 10), a (v I 11), a (v I 12), a (v I 13)])
                             (.guard (le (c 0) (v I 7))
                              (.guard (lt (v I 7) (ln (v (L I) 12)))
                               (.join
                                (.jump 0 [a (v I 1), a (v I 2), a (v (L T4) 3), a (v I 4), a (v I 5), a (v I 6), a (v (L (L I)) 8), a (v I 9), a (v (L (L I)) 10), a (v (L (L I)) 11), a (st (v (L I) 12) (v I 7) (v I 0)), a (v I 13), a (v I 14), a (v I 15), a (v I 16)])
                                (.jump 0 [a (v I 0), a (v I 1), a (v (L T4) 2), a (v I 3), a (v I 4), a (v I 5), a (v (L (L I)) 6), a (v I 7), a (v (L (L I)) 8), a (v (L (L I)) 9), a (v (L I) 10), a (v I 11), a (v I 12), a (v I 13), a (v I 14)])))))))
                          (.guard (le (c 0) (add (v I 0) (c 1)))
                           (.guard (lt (add (v I 0) (c 1)) (ln (v (L I) 18)))
                            (.join
                             (.jump 0 [a (ar .or (v I 2) (ar .and (v I 1) (ix (v (L I) 18) (add (v I 0) (c 1))))), a (v I 3), a (v I 4), a (v (L T4) 5), a (v I 6), a (v I 7), a (v I 8), a (v I 9), a (v (L (L I)) 15), a (v I 16), a (v (L (L I)) 17), a (v (L (L I)) 14), a (v (L I) 18), a (v I 10), a (v I 11), a (v I 12), a (v I 13)])
                             (.guard (le (c 0) (v I 7))
                              (.guard (lt (v I 7) (ln (v (L I) 12)))
                               (.join
                                (.jump 0 [a (v I 1), a (v I 2), a (v (L T4) 3), a (v I 4), a (v I 5), a (v I 6), a (v (L (L I)) 8), a (v I 9), a (v (L (L I)) 10), a (v (L (L I)) 11), a (st (v (L I) 12) (v I 7) (v I 0)), a (v I 13), a (v I 14), a (v I 15), a (v I 16)])
                                (.jump 0 [a (v I 0), a (v I 1), a (v (L T4) 2), a (v I 3), a (v I 4), a (v I 5), a (v (L (L I)) 6), a (v I 7), a (v (L (L I)) 8), a (v (L (L I)) 9), a (v (L I) 10), a (v I 11), a (v I 12), a (v I 13), a (v I 14)]))))))))
                         (.ite (eq (add (v I 0) (c 1)) (v I 16))
                          (.guard (le (c 0) (ln (v (L (L I)) 17)))
                           (.guard (lt (ln (v (L (L I)) 17)) (ln (v (L I) 18)))
                            (.join
                             (.jump 0 [a (ar .and (v I 2) (ar .or (v I 1) (ix (v (L I) 18) (ln (v (L (L I)) 17))))), a (v I 3), a (v I 4), a (v (L T4) 5), a (v I 6), a (v I 7), a (v I 8), a (v I 9), a (v (L (L I)) 15), a (v I 16), a (v (L (L I)) 17), a (v (L (L I)) 14), a (v (L I) 18), a (v I 10), a (v I 11), a (v I 12), a (v I 13)])
                             (.guard (le (c 0) (v I 7))
                              (.guard (lt (v I 7) (ln (v (L I) 12)))
                               (.join
                                (.jump 0 [a (v I 1), a (v I 2), a (v (L T4) 3), a (v I 4), a (v I 5), a (v I 6), a (v (L (L I)) 8), a (v I 9), a (v (L (L I)) 10), a (v (L (L I)) 11), a (st (v (L I) 12) (v I 7) (v I 0)), a (v I 13), a (v I 14), a (v I 15), a (v I 16)])
                                (.jump 0 [a (v I 0), a (v I 1), a (v (L T4) 2), a (v I 3), a (v I 4), a (v I 5), a (v (L (L I)) 6), a (v I 7), a (v (L (L I)) 8), a (v (L (L I)) 9), a (v (L I) 10), a (v I 11), a (v I 12), a (v I 13), a (v I 14)])))))))
                          (.guard (le (c 0) (add (v I 0) (c 1)))
                           (.guard (lt (add (v I 0) (c 1)) (ln (v (L I) 18)))
                            (.join
                             (.jump 0 [a (ar .and (v I 2) (ar .or (v I 1) (ix (v (L I) 18) (add (v I 0) (c 1))))), a (v I 3), a (v I 4), a (v (L T4) 5), a (v I 6), a (v I 7), a (v I 8), a (v I 9), a (v (L (L I)) 15), a (v I 16), a (v (L (L I)) 17), a (v (L (L I)) 14), a (v (L I) 18), a (v I 10), a (v I 11), a (v I 12), a (v I 13)])
                             (.guard (le (c 0) (v I 7))
                              (.guard (lt (v I 7) (ln (v (L I) 12)))
                               (.join
                                (.jump 0 [a (v I 1), a (v I 2), a (v (L T4) 3), a (v I 4), a (v I 5), a (v I 6), a (v (L (L I)) 8), a (v I 9), a (v (L (L I)) 10), a (v (L (L I)) 11), a (st (v (L I) 12) (v I 7) (v I 0)), a (v I 13), a (v I 14), a (v I 15), a (v I 16)])
                                (.jump 0 [a (v I 0), a (v I 1), a (v (L T4) 2), a (v I 3), a (v I 4), a (v I 5), a (v (L (L I)) 6), a (v I 7), a (v (L (L I)) 8), a (v (L (L I)) 9), a (v (L I) 10), a (v I 11), a (v I 12), a (v I 13), a (v I 14)]))))))))))))))))
                 (.jump 0 [a (v I 0), a (sub (v I 1) (c 1)), a (v (L T4) 2), a (v I 3), a (v I 4), a (v I 5), a (v (L (L I)) 6), a (v I 7), a (v (L (L I)) 8), a (v (L (L I)) 9), a (v (L I) 10), a (v I 11), a (v I 12), a (v I 13), a (v I 14)]))
                (.jump 1 [a (v I 0), a (v (L T4) 2), a (v I 3), a (v I 4), a (add (v I 5) (c 1)), a (v (L (L I)) 6), a (v I 7), a (v (L (L I)) 8), a (v (L (L I)) 9), a (v (L I) 10), a (v I 11), a (v I 12), a (v I 13), a (v I 14)])))
              (.guard (le (c 0) (v I 0))
               (.guard (lt (v I 0) (ln (v (L (L I)) 8)))
                (.jump 2 [a (v (L T4) 1), a (v I 2), a (add (v I 3) (c 1)), a (v (L (L I)) 5), a (v I 6), a (v (L (L I)) 7), a (st (v (L (L I)) 8) (v I 0) (v (L I) 9))]))))))))))))
     (.ret [a (v (L (L I)) 6)])))))
def tr_impl_HoldsOnRun : Tr := .call f_impl_factsOk [a (v (L V3) 0), a (v (L TR) 1), a (v (L (L T4)) 2)] 100256
 (.ite (nt (v B 100256))
  (.ret [a (k false)])
  (.call f_impl_LassoValid [a (v (L V3) 0), a (v (L TR) 1), a (v (L (L I)) 4), a (v (L (L I)) 5)] 100640
   (.ite (nt (v B 100640))
    (.ret [a (k false)])
    (.ite (gt (add (ln (v (L (L I)) 4)) (ln (v (L (L I)) 5))) (c 60))
     (.ret [a (k false)])
     (.call f_impl_TimesValid [a (v (L T4) 3), a (ln (v (L (L T4)) 2))] 101600
      (.ite (nt (v B 101600))
       (.ret [a (k false)])
       (.call f_impl_word [a (v (L (L T4)) 2), a (v (L (L I)) 4)] 101984
        (.call f_impl_word [a (v (L (L T4)) 2), a (v (L (L I)) 5)] 102176
         (.call f_impl_timesOn [a (v (L T4) 3), a (v (L (L I)) 101984), a (v (L (L I)) 102176)] 102240
          (.guard (le (c 0) (sub (ln (v (L (L I)) 102240)) (c 1)))
           (.guard (lt (sub (ln (v (L (L I)) 102240)) (c 1)) (ln (v (L (L I)) 102240)))
            (.guard (lt (c 0) (ln (ix (v (L (L I)) 102240) (sub (ln (v (L (L I)) 102240)) (c 1)))))
             (.ret [a (eq (ix (ix (v (L (L I)) 102240) (sub (ln (v (L (L I)) 102240)) (c 1))) (c 0)) (c 1))])))))))))))))
def tr_laws_eqVar : Tr := .ite (ne (v I 0) (v I 3))
 (.ret [a (k false)])
 (.ite (ne (v I 1) (v I 4))
  (.ret [a (k false)])
  (.ite (ne (v I 2) (v I 5))
   (.ret [a (k false)])
   (.ret [a (k true)])))
def tr_laws_eqVarS : Tr := .ite (ne (ln (v (L V3) 0)) (ln (v (L V3) 1)))
 (.ret [a (k false)])
 (.loop [a (v (L V3) 0), a (v (L V3) 1), a (c 0)]
  (.ite (lt (v I 2) (ln (v (L V3) 0)))
   (.guard (le (c 0) (v I 2))
    (.guard (lt (v I 2) (ln (v (L V3) 0)))
     (.guard (le (c 0) (v I 2))
      (.guard (lt (v I 2) (ln (v (L V3) 1)))
       (.call f_laws_eqVar [a (f (ix (v (L V3) 0) (v I 2))), a (f (s (ix (v (L V3) 0) (v I 2)))), a (s (s (ix (v (L V3) 0) (v I 2)))), a (f (ix (v (L V3) 1) (v I 2))), a (f (s (ix (v (L V3) 1) (v I 2)))), a (s (s (ix (v (L V3) 1) (v I 2))))] 771
        (.ite (nt (v B 771))
         (.ret [a (k false)])
         (.jump 0 [a (v (L V3) 0), a (v (L V3) 1), a (add (v I 2) (c 1))])))))))
   (.ret [a (k true)])))
def tr_laws_eqTerm : Tr := .ite (ne (v I 0) (v I 4))
 (.ret [a (k false)])
 (.ite (ne (v I 1) (v I 5))
  (.ret [a (k false)])
  (.ite (ne (v I 2) (v I 6))
   (.ret [a (k false)])
   (.ite (ne (v I 3) (v I 7))
    (.ret [a (k false)])
    (.ret [a (k true)]))))
end Go.Proofs.YthapopegchnhlaaGreat
namespace Go.Proofs.YthapopegchnhlaaGreat
open Go Go.Sm Go.Sm.Q
def tr_laws_eqTermS : Tr := .ite (ne (ln (v (L T4) 0)) (ln (v (L T4) 1)))
 (.ret [a (k false)])
 (.loop [a (v (L T4) 0), a (v (L T4) 1), a (c 0)]
  (.ite (lt (v I 2) (ln (v (L T4) 0)))
   (.guard (le (c 0) (v I 2))
    (.guard (lt (v I 2) (ln (v (L T4) 0)))
     (.guard (le (c 0) (v I 2))
      (.guard (lt (v I 2) (ln (v (L T4) 1)))
       (.call f_laws_eqTerm [a (f (ix (v (L T4) 0) (v I 2))), a (f (s (ix (v (L T4) 0) (v I 2)))), a (f (s (s (ix (v (L T4) 0) (v I 2))))), a (s (s (s (ix (v (L T4) 0) (v I 2))))), a (f (ix (v (L T4) 1) (v I 2))), a (f (s (ix (v (L T4) 1) (v I 2)))), a (f (s (s (ix (v (L T4) 1) (v I 2))))), a (s (s (s (ix (v (L T4) 1) (v I 2)))))] 771
        (.ite (nt (v B 771))
         (.ret [a (k false)])
         (.jump 0 [a (v (L T4) 0), a (v (L T4) 1), a (add (v I 2) (c 1))])))))))
   (.ret [a (k true)])))
def tr_laws_eqIntS : Tr := .ite (ne (ln (v (L I) 0)) (ln (v (L I) 1)))
 (.ret [a (k false)])
 (.loop [a (v (L I) 0), a (v (L I) 1), a (c 0)]
  (.ite (lt (v I 2) (ln (v (L I) 0)))
   (.guard (le (c 0) (v I 2))
    (.guard (lt (v I 2) (ln (v (L I) 0)))
     (.guard (le (c 0) (v I 2))
      (.guard (lt (v I 2) (ln (v (L I) 1)))
       (.ite (ne (ix (v (L I) 0) (v I 2)) (ix (v (L I) 1) (v I 2)))
        (.ret [a (k false)])
        (.jump 0 [a (v (L I) 0), a (v (L I) 1), a (add (v I 2) (c 1))]))))))
   (.ret [a (k true)])))
def tr_laws_eqTermSS : Tr := .ite (ne (ln (v (L (L T4)) 0)) (ln (v (L (L T4)) 1)))
 (.ret [a (k false)])
 (.loop [a (v (L (L T4)) 0), a (v (L (L T4)) 1), a (c 0)]
  (.ite (lt (v I 2) (ln (v (L (L T4)) 0)))
   (.guard (le (c 0) (v I 2))
    (.guard (lt (v I 2) (ln (v (L (L T4)) 0)))
     (.guard (le (c 0) (v I 2))
      (.guard (lt (v I 2) (ln (v (L (L T4)) 1)))
       (.call f_laws_eqTermS [a (ix (v (L (L T4)) 0) (v I 2)), a (ix (v (L (L T4)) 1) (v I 2))] 771
        (.ite (nt (v B 771))
         (.ret [a (k false)])
         (.jump 0 [a (v (L (L T4)) 0), a (v (L (L T4)) 1), a (add (v I 2) (c 1))])))))))
   (.ret [a (k true)])))
def tr_laws_eqRule : Tr := .call f_laws_eqTermS [a (v (L T4) 0), a (v (L T4) 3)] 100448
 (.ite (nt (v B 100448))
  (.ret [a (k false)])
  (.call f_laws_eqIntS [a (v (L I) 1), a (v (L I) 4)] 100832
   (.ite (nt (v B 100832))
    (.ret [a (k false)])
    (.call f_laws_eqTermSS [a (v (L (L T4)) 2), a (v (L (L T4)) 5)] 101216
     (.ite (nt (v B 101216))
      (.ret [a (k false)])
      (.ret [a (k true)]))))))
def tr_laws_eqRuleS : Tr := .ite (ne (ln (v (L TR) 0)) (ln (v (L TR) 1)))
 (.ret [a (k false)])
 (.loop [a (v (L TR) 0), a (v (L TR) 1), a (c 0)]
  (.ite (lt (v I 2) (ln (v (L TR) 0)))
   (.guard (le (c 0) (v I 2))
    (.guard (lt (v I 2) (ln (v (L TR) 0)))
     (.guard (le (c 0) (v I 2))
      (.guard (lt (v I 2) (ln (v (L TR) 1)))
       (.call f_laws_eqRule [a (f (ix (v (L TR) 0) (v I 2))), a (f (s (ix (v (L TR) 0) (v I 2)))), a (s (s (ix (v (L TR) 0) (v I 2)))), a (f (ix (v (L TR) 1) (v I 2))), a (f (s (ix (v (L TR) 1) (v I 2)))), a (s (s (ix (v (L TR) 1) (v I 2))))] 771
        (.ite (nt (v B 771))
         (.ret [a (k false)])
         (.jump 0 [a (v (L TR) 0), a (v (L TR) 1), a (add (v I 2) (c 1))])))))))
   (.ret [a (k true)])))
def tr_laws_eqSystem : Tr := .call f_laws_eqVarS [a (v (L V3) 0), a (v (L V3) 2)] 100448
 (.ite (nt (v B 100448))
  (.ret [a (k false)])
  (.call f_laws_eqRuleS [a (v (L TR) 1), a (v (L TR) 3)] 100832
   (.ite (nt (v B 100832))
    (.ret [a (k false)])
    (.ret [a (k true)]))))
def tr_laws_eqTime : Tr := .ite (ne (v I 0) (v I 4))
 (.ret [a (k false)])
 (.ite (ne (v I 1) (v I 5))
  (.ret [a (k false)])
  (.ite (ne (v I 2) (v I 6))
   (.ret [a (k false)])
   (.ite (ne (v I 3) (v I 7))
    (.ret [a (k false)])
    (.ret [a (k true)]))))
def tr_laws_eqTimeS : Tr := .ite (ne (ln (v (L T4) 0)) (ln (v (L T4) 1)))
 (.ret [a (k false)])
 (.loop [a (v (L T4) 0), a (v (L T4) 1), a (c 0)]
  (.ite (lt (v I 2) (ln (v (L T4) 0)))
   (.guard (le (c 0) (v I 2))
    (.guard (lt (v I 2) (ln (v (L T4) 0)))
     (.guard (le (c 0) (v I 2))
      (.guard (lt (v I 2) (ln (v (L T4) 1)))
       (.call f_laws_eqTime [a (f (ix (v (L T4) 0) (v I 2))), a (f (s (ix (v (L T4) 0) (v I 2)))), a (f (s (s (ix (v (L T4) 0) (v I 2))))), a (s (s (s (ix (v (L T4) 0) (v I 2))))), a (f (ix (v (L T4) 1) (v I 2))), a (f (s (ix (v (L T4) 1) (v I 2)))), a (f (s (s (ix (v (L T4) 1) (v I 2))))), a (s (s (s (ix (v (L T4) 1) (v I 2)))))] 771
        (.ite (nt (v B 771))
         (.ret [a (k false)])
         (.jump 0 [a (v (L T4) 0), a (v (L T4) 1), a (add (v I 2) (c 1))])))))))
   (.ret [a (k true)])))
def tr_laws_eqIntSS : Tr := .ite (ne (ln (v (L (L I)) 0)) (ln (v (L (L I)) 1)))
 (.ret [a (k false)])
 (.loop [a (v (L (L I)) 0), a (v (L (L I)) 1), a (c 0)]
  (.ite (lt (v I 2) (ln (v (L (L I)) 0)))
   (.guard (le (c 0) (v I 2))
    (.guard (lt (v I 2) (ln (v (L (L I)) 0)))
     (.guard (le (c 0) (v I 2))
      (.guard (lt (v I 2) (ln (v (L (L I)) 1)))
       (.call f_laws_eqIntS [a (ix (v (L (L I)) 0) (v I 2)), a (ix (v (L (L I)) 1) (v I 2))] 771
        (.ite (nt (v B 771))
         (.ret [a (k false)])
         (.jump 0 [a (v (L (L I)) 0), a (v (L (L I)) 1), a (add (v I 2) (c 1))])))))))
   (.ret [a (k true)])))
def tr_laws_FnExactHoldsOnRun : Tr := .call f_laws_szSystem [a (v (L V3) 0), a (v (L TR) 1), a (c 1048576)] 100320
 (.ite (lt (v I 100320) (c 0))
  (.ret [a (k true)])
  (.call f_laws_szTermSS [a (v (L (L T4)) 2), a (v I 100320)] 100704
   (.ite (lt (v I 100704) (c 0))
    (.ret [a (k true)])
    (.call f_laws_szTimeS [a (v (L T4) 3), a (v I 100704)] 101088
     (.ite (lt (v I 101088) (c 0))
      (.ret [a (k true)])
      (.call f_laws_szIntSS [a (v (L (L I)) 4), a (v I 101088)] 101472
       (.ite (lt (v I 101472) (c 0))
        (.ret [a (k true)])
        (.call f_laws_szIntSS [a (v (L (L I)) 5), a (v I 101472)] 101856
         (.ite (lt (v I 101856) (c 0))
          (.ret [a (k true)])
          (.call f_laws_toSystem [a (v (L V3) 0), a (v (L TR) 1)] 102176
           (.call f_laws_toTermSS [a (v (L (L T4)) 2)] 102304
            (.call f_laws_toTimeS [a (v (L T4) 3)] 102432
             (.call f_laws_toIntSS [a (v (L (L I)) 4)] 102560
              (.call f_laws_toIntSS [a (v (L (L I)) 5)] 102688
               (.call f_spec_HoldsOnRun [a (v (L V3) 102176), a (v (L TR) 102177), a (v (L (L T4)) 102304), a (v (L T4) 102432), a (v (L (L I)) 102560), a (v (L (L I)) 102688)] 102752
                (.call f_laws_toSystem [a (v (L V3) 0), a (v (L TR) 1)] 102944
                 (.call f_laws_toTermSS [a (v (L (L T4)) 2)] 103200
                  (.call f_laws_toTimeS [a (v (L T4) 3)] 103392
                   (.call f_laws_toIntSS [a (v (L (L I)) 4)] 103584
                    (.call f_laws_toIntSS [a (v (L (L I)) 5)] 103776
                     (.call f_impl_HoldsOnRun [a (v (L V3) 102944), a (v (L TR) 102945), a (v (L (L T4)) 103200), a (v (L T4) 103392), a (v (L (L I)) 103584), a (v (L (L I)) 103776)] 104224
                      (.ite (.o2 .bne (v B 104224) (v B 102752))
                       (.ret [a (k false)])
                       (.call f_laws_toSystem [a (v (L V3) 0), a (v (L TR) 1)] 104672
                        (.call f_laws_eqSystem [a (v (L V3) 102944), a (v (L TR) 102945), a (v (L V3) 104672), a (v (L TR) 104673)] 104736
                         (.ite (nt (v B 104736))
                          (.ret [a (k false)])
                          (.call f_laws_toTermSS [a (v (L (L T4)) 2)] 104992
                           (.call f_laws_eqTermSS [a (v (L (L T4)) 103200), a (v (L (L T4)) 104992)] 105056
                            (.ite (nt (v B 105056))
                             (.ret [a (k false)])
                             (.call f_laws_toTimeS [a (v (L T4) 3)] 105312
                              (.call f_laws_eqTimeS [a (v (L T4) 103392), a (v (L T4) 105312)] 105376
                               (.ite (nt (v B 105376))
                                (.ret [a (k false)])
                                (.call f_laws_toIntSS [a (v (L (L I)) 4)] 105632
                                 (.call f_laws_eqIntSS [a (v (L (L I)) 103584), a (v (L (L I)) 105632)] 105696
                                  (.ite (nt (v B 105696))
                                   (.ret [a (k false)])
                                   (.call f_laws_toIntSS [a (v (L (L I)) 5)] 105952
                                    (.call f_laws_eqIntSS [a (v (L (L I)) 103776), a (v (L (L I)) 105952)] 106016
                                     (.ite (nt (v B 106016))
                                      (.ret [a (k false)])
                                      (.ret [a (k true)]))))))))))))))))))))))))))))))))))))))
end Go.Proofs.YthapopegchnhlaaGreat
namespace Go.Proofs.YthapopegchnhlaaGreat
open Go Go.Sm Go.Sm.Q
set_option maxRecDepth 100000
def trL : List (Nat × Tr) := [
(f_laws_szVarS, tr_laws_szVarS),
(f_laws_szTermS, tr_laws_szTermS),
(f_laws_szIntS, tr_laws_szIntS),
(f_laws_szTermSS, tr_laws_szTermSS),
(f_laws_szRule, tr_laws_szRule),
(f_laws_szRuleS, tr_laws_szRuleS),
(f_laws_szSystem, tr_laws_szSystem),
(f_laws_szTimeS, tr_laws_szTimeS),
(f_laws_szIntSS, tr_laws_szIntSS),
(f_laws_toVar, tr_laws_toVar),
(f_laws_toVarS, tr_laws_toVarS),
(f_laws_toTerm, tr_laws_toTerm),
(f_laws_toTermS, tr_laws_toTermS),
(f_laws_toIntS, tr_laws_toIntS),
(f_laws_toTermSS, tr_laws_toTermSS),
(f_laws_toRule, tr_laws_toRule),
(f_laws_toRuleS, tr_laws_toRuleS),
(f_laws_toSystem, tr_laws_toSystem),
(f_laws_toTime, tr_laws_toTime),
(f_laws_toTimeS, tr_laws_toTimeS),
(f_laws_toIntSS, tr_laws_toIntSS),
(f_spec_l1In, tr_spec_l1In),
(f_spec_l1One, tr_spec_l1One),
(f_spec_l1Kind, tr_spec_l1Kind),
(f_spec_KindsOf, tr_spec_KindsOf),
(f_spec_l2Is, tr_spec_l2Is),
(f_spec_l2Var, tr_spec_l2Var),
(f_spec_l2Rule, tr_spec_l2Rule),
(f_spec_SystemValid, tr_spec_SystemValid),
(f_spec_l20Facts, tr_spec_l20Facts),
(f_spec_l3At, tr_spec_l3At),
(f_spec_FirstState, tr_spec_FirstState),
(f_spec_l2Same, tr_spec_l2Same),
(f_spec_l2In, tr_spec_l2In),
(f_spec_l1Held, tr_spec_l1Held),
(f_spec_l1Truth, tr_spec_l1Truth),
(f_spec_l1Do, tr_spec_l1Do),
(f_spec_l1Values, tr_spec_l1Values),
(f_spec_l2Last, tr_spec_l2Last),
(f_spec_l2Use, tr_spec_l2Use),
(f_spec_l2Less, tr_spec_l2Less),
(f_spec_l2Put, tr_spec_l2Put),
(f_spec_l2Next, tr_spec_l2Next),
(f_spec_l3Follows, tr_spec_l3Follows),
(f_spec_LassoValid, tr_spec_LassoValid),
(f_spec_l20Of, tr_spec_l20Of),
(f_spec_l20One, tr_spec_l20One),
(f_spec_l20Step, tr_spec_l20Step),
(f_spec_TimesValid, tr_spec_TimesValid),
(f_spec_l6Are, tr_spec_l6Are),
(f_spec_l20Letters, tr_spec_l20Letters),
(f_spec_WordValid, tr_spec_WordValid),
(f_spec_l20Next, tr_spec_l20Next),
(f_spec_l20Later, tr_spec_l20Later),
(f_spec_l20Row, tr_spec_l20Row),
(f_spec_TimesOn, tr_spec_TimesOn),
(f_spec_HoldsOn, tr_spec_HoldsOn),
(f_spec_HoldsOnRun, tr_spec_HoldsOnRun),
(f_impl_in, tr_impl_in),
(f_impl_varOk, tr_impl_varOk),
(f_impl_size, tr_impl_size),
(f_impl_parts, tr_impl_parts),
(f_impl_kindsOf, tr_impl_kindsOf),
(f_impl_kindOf, tr_impl_kindOf),
(f_impl_ruleOk, tr_impl_ruleOk),
(f_impl_SystemValid, tr_impl_SystemValid),
(f_impl_factsOk, tr_impl_factsOk),
(f_impl_lassoOk, tr_impl_lassoOk),
(f_slices_Concat_SSint_Sint, tr_slices_Concat_SSint_Sint),
(f_impl_inRange, tr_impl_inRange),
(f_impl_clone_int, tr_impl_clone_int),
(f_impl_first, tr_impl_first),
(f_slices_Equal_Sint_int, tr_slices_Equal_Sint_int),
(f_impl_held, tr_impl_held),
(f_impl_bit, tr_impl_bit),
(f_impl_do, tr_impl_do),
(f_impl_eval, tr_impl_eval),
(f_impl_use, tr_impl_use),
(f_impl_usableIn, tr_impl_usableIn),
(f_impl_ruleBetween, tr_impl_ruleBetween),
(f_impl_follows, tr_impl_follows),
(f_impl_LassoValid, tr_impl_LassoValid),
(f_impl_TimesValid, tr_impl_TimesValid),
(f_impl_letters, tr_impl_letters),
(f_impl_word, tr_impl_word),
(f_impl_timesOn, tr_impl_timesOn),
(f_impl_HoldsOnRun, tr_impl_HoldsOnRun),
(f_laws_eqVar, tr_laws_eqVar),
(f_laws_eqVarS, tr_laws_eqVarS),
(f_laws_eqTerm, tr_laws_eqTerm),
(f_laws_eqTermS, tr_laws_eqTermS),
(f_laws_eqIntS, tr_laws_eqIntS),
(f_laws_eqTermSS, tr_laws_eqTermSS),
(f_laws_eqRule, tr_laws_eqRule),
(f_laws_eqRuleS, tr_laws_eqRuleS),
(f_laws_eqSystem, tr_laws_eqSystem),
(f_laws_eqTime, tr_laws_eqTime),
(f_laws_eqTimeS, tr_laws_eqTimeS),
(f_laws_eqIntSS, tr_laws_eqIntSS),
(f_laws_FnExactHoldsOnRun, tr_laws_FnExactHoldsOnRun)]
def haL : List Nat := []
def mc : Mc := ⟨fun f => (trL.find? (·.1 == f)).map (·.2), fun f ins => if haL.contains f then some ins else none⟩
theorem F_laws_szVarS : mc.F f_laws_szVarS = some tr_laws_szVarS := rfl
theorem F_laws_szTermS : mc.F f_laws_szTermS = some tr_laws_szTermS := rfl
theorem F_laws_szIntS : mc.F f_laws_szIntS = some tr_laws_szIntS := rfl
theorem F_laws_szTermSS : mc.F f_laws_szTermSS = some tr_laws_szTermSS := rfl
theorem F_laws_szRule : mc.F f_laws_szRule = some tr_laws_szRule := rfl
theorem F_laws_szRuleS : mc.F f_laws_szRuleS = some tr_laws_szRuleS := rfl
theorem F_laws_szSystem : mc.F f_laws_szSystem = some tr_laws_szSystem := rfl
theorem F_laws_szTimeS : mc.F f_laws_szTimeS = some tr_laws_szTimeS := rfl
theorem F_laws_szIntSS : mc.F f_laws_szIntSS = some tr_laws_szIntSS := rfl
theorem F_laws_toVar : mc.F f_laws_toVar = some tr_laws_toVar := rfl
theorem F_laws_toVarS : mc.F f_laws_toVarS = some tr_laws_toVarS := rfl
theorem F_laws_toTerm : mc.F f_laws_toTerm = some tr_laws_toTerm := rfl
theorem F_laws_toTermS : mc.F f_laws_toTermS = some tr_laws_toTermS := rfl
theorem F_laws_toIntS : mc.F f_laws_toIntS = some tr_laws_toIntS := rfl
theorem F_laws_toTermSS : mc.F f_laws_toTermSS = some tr_laws_toTermSS := rfl
theorem F_laws_toRule : mc.F f_laws_toRule = some tr_laws_toRule := rfl
theorem F_laws_toRuleS : mc.F f_laws_toRuleS = some tr_laws_toRuleS := rfl
theorem F_laws_toSystem : mc.F f_laws_toSystem = some tr_laws_toSystem := rfl
theorem F_laws_toTime : mc.F f_laws_toTime = some tr_laws_toTime := rfl
theorem F_laws_toTimeS : mc.F f_laws_toTimeS = some tr_laws_toTimeS := rfl
theorem F_laws_toIntSS : mc.F f_laws_toIntSS = some tr_laws_toIntSS := rfl
theorem F_spec_l1In : mc.F f_spec_l1In = some tr_spec_l1In := rfl
theorem F_spec_l1One : mc.F f_spec_l1One = some tr_spec_l1One := rfl
theorem F_spec_l1Kind : mc.F f_spec_l1Kind = some tr_spec_l1Kind := rfl
theorem F_spec_KindsOf : mc.F f_spec_KindsOf = some tr_spec_KindsOf := rfl
theorem F_spec_l2Is : mc.F f_spec_l2Is = some tr_spec_l2Is := rfl
theorem F_spec_l2Var : mc.F f_spec_l2Var = some tr_spec_l2Var := rfl
theorem F_spec_l2Rule : mc.F f_spec_l2Rule = some tr_spec_l2Rule := rfl
theorem F_spec_SystemValid : mc.F f_spec_SystemValid = some tr_spec_SystemValid := rfl
theorem F_spec_l20Facts : mc.F f_spec_l20Facts = some tr_spec_l20Facts := rfl
theorem F_spec_l3At : mc.F f_spec_l3At = some tr_spec_l3At := rfl
theorem F_spec_FirstState : mc.F f_spec_FirstState = some tr_spec_FirstState := rfl
theorem F_spec_l2Same : mc.F f_spec_l2Same = some tr_spec_l2Same := rfl
theorem F_spec_l2In : mc.F f_spec_l2In = some tr_spec_l2In := rfl
theorem F_spec_l1Held : mc.F f_spec_l1Held = some tr_spec_l1Held := rfl
theorem F_spec_l1Truth : mc.F f_spec_l1Truth = some tr_spec_l1Truth := rfl
theorem F_spec_l1Do : mc.F f_spec_l1Do = some tr_spec_l1Do := rfl
theorem F_spec_l1Values : mc.F f_spec_l1Values = some tr_spec_l1Values := rfl
theorem F_spec_l2Last : mc.F f_spec_l2Last = some tr_spec_l2Last := rfl
theorem F_spec_l2Use : mc.F f_spec_l2Use = some tr_spec_l2Use := rfl
theorem F_spec_l2Less : mc.F f_spec_l2Less = some tr_spec_l2Less := rfl
theorem F_spec_l2Put : mc.F f_spec_l2Put = some tr_spec_l2Put := rfl
theorem F_spec_l2Next : mc.F f_spec_l2Next = some tr_spec_l2Next := rfl
theorem F_spec_l3Follows : mc.F f_spec_l3Follows = some tr_spec_l3Follows := rfl
theorem F_spec_LassoValid : mc.F f_spec_LassoValid = some tr_spec_LassoValid := rfl
theorem F_spec_l20Of : mc.F f_spec_l20Of = some tr_spec_l20Of := rfl
theorem F_spec_l20One : mc.F f_spec_l20One = some tr_spec_l20One := rfl
theorem F_spec_l20Step : mc.F f_spec_l20Step = some tr_spec_l20Step := rfl
theorem F_spec_TimesValid : mc.F f_spec_TimesValid = some tr_spec_TimesValid := rfl
theorem F_spec_l6Are : mc.F f_spec_l6Are = some tr_spec_l6Are := rfl
theorem F_spec_l20Letters : mc.F f_spec_l20Letters = some tr_spec_l20Letters := rfl
theorem F_spec_WordValid : mc.F f_spec_WordValid = some tr_spec_WordValid := rfl
theorem F_spec_l20Next : mc.F f_spec_l20Next = some tr_spec_l20Next := rfl
theorem F_spec_l20Later : mc.F f_spec_l20Later = some tr_spec_l20Later := rfl
theorem F_spec_l20Row : mc.F f_spec_l20Row = some tr_spec_l20Row := rfl
theorem F_spec_TimesOn : mc.F f_spec_TimesOn = some tr_spec_TimesOn := rfl
theorem F_spec_HoldsOn : mc.F f_spec_HoldsOn = some tr_spec_HoldsOn := rfl
theorem F_spec_HoldsOnRun : mc.F f_spec_HoldsOnRun = some tr_spec_HoldsOnRun := rfl
theorem F_impl_in : mc.F f_impl_in = some tr_impl_in := rfl
theorem F_impl_varOk : mc.F f_impl_varOk = some tr_impl_varOk := rfl
theorem F_impl_size : mc.F f_impl_size = some tr_impl_size := rfl
theorem F_impl_parts : mc.F f_impl_parts = some tr_impl_parts := rfl
theorem F_impl_kindsOf : mc.F f_impl_kindsOf = some tr_impl_kindsOf := rfl
theorem F_impl_kindOf : mc.F f_impl_kindOf = some tr_impl_kindOf := rfl
theorem F_impl_ruleOk : mc.F f_impl_ruleOk = some tr_impl_ruleOk := rfl
theorem F_impl_SystemValid : mc.F f_impl_SystemValid = some tr_impl_SystemValid := rfl
theorem F_impl_factsOk : mc.F f_impl_factsOk = some tr_impl_factsOk := rfl
theorem F_impl_lassoOk : mc.F f_impl_lassoOk = some tr_impl_lassoOk := rfl
theorem F_slices_Concat_SSint_Sint : mc.F f_slices_Concat_SSint_Sint = some tr_slices_Concat_SSint_Sint := rfl
theorem F_impl_inRange : mc.F f_impl_inRange = some tr_impl_inRange := rfl
theorem F_impl_clone_int : mc.F f_impl_clone_int = some tr_impl_clone_int := rfl
theorem F_impl_first : mc.F f_impl_first = some tr_impl_first := rfl
theorem F_slices_Equal_Sint_int : mc.F f_slices_Equal_Sint_int = some tr_slices_Equal_Sint_int := rfl
theorem F_impl_held : mc.F f_impl_held = some tr_impl_held := rfl
theorem F_impl_bit : mc.F f_impl_bit = some tr_impl_bit := rfl
theorem F_impl_do : mc.F f_impl_do = some tr_impl_do := rfl
theorem F_impl_eval : mc.F f_impl_eval = some tr_impl_eval := rfl
theorem F_impl_use : mc.F f_impl_use = some tr_impl_use := rfl
theorem F_impl_usableIn : mc.F f_impl_usableIn = some tr_impl_usableIn := rfl
theorem F_impl_ruleBetween : mc.F f_impl_ruleBetween = some tr_impl_ruleBetween := rfl
theorem F_impl_follows : mc.F f_impl_follows = some tr_impl_follows := rfl
theorem F_impl_LassoValid : mc.F f_impl_LassoValid = some tr_impl_LassoValid := rfl
theorem F_impl_TimesValid : mc.F f_impl_TimesValid = some tr_impl_TimesValid := rfl
theorem F_impl_letters : mc.F f_impl_letters = some tr_impl_letters := rfl
theorem F_impl_word : mc.F f_impl_word = some tr_impl_word := rfl
theorem F_impl_timesOn : mc.F f_impl_timesOn = some tr_impl_timesOn := rfl
theorem F_impl_HoldsOnRun : mc.F f_impl_HoldsOnRun = some tr_impl_HoldsOnRun := rfl
theorem F_laws_eqVar : mc.F f_laws_eqVar = some tr_laws_eqVar := rfl
theorem F_laws_eqVarS : mc.F f_laws_eqVarS = some tr_laws_eqVarS := rfl
theorem F_laws_eqTerm : mc.F f_laws_eqTerm = some tr_laws_eqTerm := rfl
theorem F_laws_eqTermS : mc.F f_laws_eqTermS = some tr_laws_eqTermS := rfl
theorem F_laws_eqIntS : mc.F f_laws_eqIntS = some tr_laws_eqIntS := rfl
theorem F_laws_eqTermSS : mc.F f_laws_eqTermSS = some tr_laws_eqTermSS := rfl
theorem F_laws_eqRule : mc.F f_laws_eqRule = some tr_laws_eqRule := rfl
theorem F_laws_eqRuleS : mc.F f_laws_eqRuleS = some tr_laws_eqRuleS := rfl
theorem F_laws_eqSystem : mc.F f_laws_eqSystem = some tr_laws_eqSystem := rfl
theorem F_laws_eqTime : mc.F f_laws_eqTime = some tr_laws_eqTime := rfl
theorem F_laws_eqTimeS : mc.F f_laws_eqTimeS = some tr_laws_eqTimeS := rfl
theorem F_laws_eqIntSS : mc.F f_laws_eqIntSS = some tr_laws_eqIntSS := rfl
theorem F_laws_FnExactHoldsOnRun : mc.F f_laws_FnExactHoldsOnRun = some tr_laws_FnExactHoldsOnRun := rfl
end Go.Proofs.YthapopegchnhlaaGreat
