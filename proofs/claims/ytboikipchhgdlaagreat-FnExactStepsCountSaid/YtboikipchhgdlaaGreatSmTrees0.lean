/- What the functions of the law come to, as trees; printed by a program; no condition. -/
import Derived.Test.YtboikipchhgdlaaGreatSmLib4
namespace Go.Proofs.YtboikipchhgdlaaGreat
open Go Go.Sm Go.Sm.Q
abbrev f_laws_szVarS : Nat := 18
abbrev f_laws_szTermS : Nat := 67
abbrev f_laws_szIntS : Nat := 68
abbrev f_laws_szTermSS : Nat := 69
abbrev f_laws_szRule : Nat := 36
abbrev f_laws_szRuleS : Nat := 19
abbrev f_laws_szSystem : Nat := 5
abbrev f_laws_toVar : Nat := 42
abbrev f_laws_toVarS : Nat := 22
abbrev f_laws_toTerm : Nat := 110
abbrev f_laws_toTermS : Nat := 76
abbrev f_laws_toIntS : Nat := 77
abbrev f_laws_toTermSS : Nat := 78
abbrev f_laws_toRule : Nat := 43
abbrev f_laws_toRuleS : Nat := 23
abbrev f_laws_toSystem : Nat := 7
abbrev f_spec_l1In : Nat := 59
abbrev f_spec_l2Var : Nat := 99
abbrev f_spec_l1One : Nat := 148
abbrev f_spec_l1Kind : Nat := 145
abbrev f_spec_KindsOf : Nat := 132
abbrev f_spec_l2Is : Nat := 123
abbrev f_spec_l2Rule : Nat := 100
abbrev f_spec_SystemValid : Nat := 55
abbrev f_spec_l6Many : Nat := 101
abbrev f_spec_l6Widths : Nat := 57
abbrev f_spec_l6Sum : Nat := 56
abbrev f_spec_l10Wide : Nat := 29
abbrev f_spec_SizeOf : Nat := 58
abbrev f_spec_FirstState : Nat := 108
abbrev f_spec_l3Copy : Nat := 107
abbrev f_spec_l4State : Nat := 74
abbrev f_spec_l1Held : Nat := 153
abbrev f_spec_l1Truth : Nat := 154
abbrev f_spec_l1Do : Nat := 152
abbrev f_spec_l1Values : Nat := 146
abbrev f_spec_l2Last : Nat := 133
abbrev f_spec_l2In : Nat := 134
abbrev f_spec_l2Use : Nat := 124
abbrev f_spec_l2Same : Nat := 135
abbrev f_spec_l2Less : Nat := 136
abbrev f_spec_l2Put : Nat := 125
abbrev f_spec_l2Next : Nat := 102
abbrev f_spec_l4Number : Nat := 103
abbrev f_spec_l4Steps : Nat := 62
abbrev f_spec_l6Value : Nat := 106
abbrev f_spec_l6State : Nat := 73
abbrev f_spec_l10Both : Nat := 72
abbrev f_spec_l10Steps : Nat := 38
abbrev f_spec_l6Number : Nat := 70
abbrev f_spec_l8Add : Nat := 105
abbrev f_spec_l8Rows : Nat := 71
abbrev f_spec_l10Of : Nat := 37
abbrev f_spec_StepDiagram : Nat := 20
abbrev f_spec_l8Var : Nat := 109
abbrev f_spec_l8Fork : Nat := 75
abbrev f_spec_DiagramValid : Nat := 39
abbrev f_spec_l8Place : Nat := 40
abbrev f_spec_l8Count : Nat := 41
abbrev f_spec_DiagramCount : Nat := 21
abbrev f_spec_StepsCount : Nat := 6
abbrev f_impl_in : Nat := 79
abbrev f_impl_varOk : Nat := 82
abbrev f_impl_size : Nat := 46
abbrev f_impl_parts : Nat := 137
abbrev f_impl_kindsOf : Nat := 126
abbrev f_impl_kindOf : Nat := 113
abbrev f_impl_ruleOk : Nat := 85
abbrev f_impl_SystemValid : Nat := 44
abbrev f_impl_bitsFor : Nat := 114
abbrev f_impl_clone_int : Nat := 104
abbrev f_impl_bitsOf : Nat := 86
abbrev f_impl_bitCount : Nat := 45
abbrev f_impl_halfNarrow : Nat := 24
abbrev f_impl_stateAt : Nat := 48
abbrev f_impl_held : Nat := 138
abbrev f_impl_bit : Nat := 139
abbrev f_impl_do : Nat := 127
abbrev f_impl_eval : Nat := 115
abbrev f_impl_inRange : Nat := 116
abbrev f_impl_use : Nat := 87
abbrev f_cmp_isNaN_int : Nat := 128
abbrev f_cmp_Compare_int : Nat := 117
abbrev f_slices_Compare_Sint_int : Nat := 89
abbrev f_slices_Reverse_SSint_Sint : Nat := 140
abbrev f_impl_clone_Sint : Nat := 91
abbrev f_impl_nextStates : Nat := 47
abbrev f_impl_number : Nat := 49
abbrev f_impl_nexts : Nat := 25
abbrev f_impl_StepsCount : Nat := 8
abbrev f_laws_eqVar : Nat := 50
abbrev f_laws_eqVarS : Nat := 26
abbrev f_laws_eqTerm : Nat := 120
abbrev f_laws_eqTermS : Nat := 92
abbrev f_laws_eqIntS : Nat := 93
abbrev f_laws_eqTermSS : Nat := 94
abbrev f_laws_eqRule : Nat := 51
abbrev f_laws_eqRuleS : Nat := 27
abbrev f_laws_eqSystem : Nat := 9
abbrev f_laws_FnExactStepsCount : Nat := 3
abbrev f_slices_Insert_SSint_Sint : Nat := 90
def tr_laws_szVarS : Tr := .ite (lt (sub (v I 1) (ln (v (L V3) 0))) (c 0))
 (.ret [a (c (-1))])
 (.ret [a (sub (v I 1) (ln (v (L V3) 0)))])
def tr_laws_szTermS : Tr := .ite (lt (sub (v I 1) (ln (v (L T4) 0))) (c 0))
 (.ret [a (c (-1))])
 (.ret [a (sub (v I 1) (ln (v (L T4) 0)))])
def tr_laws_szIntS : Tr := .ite (lt (sub (v I 1) (ln (v (L I) 0))) (c 0))
 (.ret [a (c (-1))])
 (.ret [a (sub (v I 1) (ln (v (L I) 0)))])
def tr_laws_szTermSS : Tr := .ite (lt (sub (v I 1) (ln (v (L (L T4)) 0))) (c 0))
 (.ret [a (c (-1))])
 (.loop [a (v (L (L T4)) 0), a (sub (v I 1) (ln (v (L (L T4)) 0))), a (c 0)]
  (.ite (lt (v I 2) (ln (v (L (L T4)) 0)))
   (.guard (le (c 0) (v I 2))
    (.guard (lt (v I 2) (ln (v (L (L T4)) 0)))
     (.call f_laws_szTermS [a (ix (v (L (L T4)) 0) (v I 2)), a (v I 1)] 579
      (.ite (lt (v I 579) (c 0))
       (.ret [a (c (-1))])
       (.jump 0 [a (v (L (L T4)) 0), a (v I 579), a (add (v I 2) (c 1))])))))
   (.ret [a (v I 1)])))
def tr_laws_szRule : Tr := .call f_laws_szTermS [a (v (L T4) 0), a (v I 3)] 100320
 (.ite (lt (v I 100320) (c 0))
  (.ret [a (c (-1))])
  (.call f_laws_szIntS [a (v (L I) 1), a (v I 100320)] 100768
   (.ite (lt (v I 100768) (c 0))
    (.ret [a (c (-1))])
    (.call f_laws_szTermSS [a (v (L (L T4)) 2), a (v I 100768)] 101216
     (.ite (lt (v I 101216) (c 0))
      (.ret [a (c (-1))])
      (.ret [a (v I 101216)]))))))
def tr_laws_szRuleS : Tr := .ite (lt (sub (v I 1) (ln (v (L TR) 0))) (c 0))
 (.ret [a (c (-1))])
 (.loop [a (v (L TR) 0), a (sub (v I 1) (ln (v (L TR) 0))), a (c 0)]
  (.ite (lt (v I 2) (ln (v (L TR) 0)))
   (.guard (le (c 0) (v I 2))
    (.guard (lt (v I 2) (ln (v (L TR) 0)))
     (.call f_laws_szRule [a (f (ix (v (L TR) 0) (v I 2))), a (f (s (ix (v (L TR) 0) (v I 2)))), a (s (s (ix (v (L TR) 0) (v I 2)))), a (v I 1)] 579
      (.ite (lt (v I 579) (c 0))
       (.ret [a (c (-1))])
       (.jump 0 [a (v (L TR) 0), a (v I 579), a (add (v I 2) (c 1))])))))
   (.ret [a (v I 1)])))
def tr_laws_szSystem : Tr := .call f_laws_szVarS [a (v (L V3) 0), a (v I 2)] 100320
 (.ite (lt (v I 100320) (c 0))
  (.ret [a (c (-1))])
  (.call f_laws_szRuleS [a (v (L TR) 1), a (v I 100320)] 100768
   (.ite (lt (v I 100768) (c 0))
    (.ret [a (c (-1))])
    (.ret [a (v I 100768)]))))
def tr_laws_toVar : Tr := .ret [a (v I 0), a (v I 1), a (v I 2)]
def tr_laws_toVarS : Tr := .guard (le (c 0) (ln (v (L V3) 0)))
 (.guard (le (ln (v (L V3) 0)) (c 549755813888))
  (.loop [a (v (L V3) 0), a (c 0), a (rep (ln (v (L V3) 0)) (z V3))]
   (.ite (lt (v I 1) (ln (v (L V3) 0)))
    (.guard (le (c 0) (v I 1))
     (.guard (lt (v I 1) (ln (v (L V3) 0)))
      (.call f_laws_toVar [a (f (ix (v (L V3) 0) (v I 1))), a (f (s (ix (v (L V3) 0) (v I 1)))), a (s (s (ix (v (L V3) 0) (v I 1))))] 644
       (.guard (le (c 0) (v I 1))
        (.guard (lt (v I 1) (ln (v (L V3) 2)))
         (.jump 0 [a (v (L V3) 0), a (add (v I 1) (c 1)), a (st (v (L V3) 2) (v I 1) (pr (v I 644) (pr (v I 645) (v I 646))))]))))))
    (.ret [a (v (L V3) 2)]))))
def tr_laws_toTerm : Tr := .ret [a (v I 0), a (v I 1), a (v I 2), a (v I 3)]
def tr_laws_toTermS : Tr := .guard (le (c 0) (ln (v (L T4) 0)))
 (.guard (le (ln (v (L T4) 0)) (c 549755813888))
  (.loop [a (v (L T4) 0), a (c 0), a (rep (ln (v (L T4) 0)) (z T4))]
   (.ite (lt (v I 1) (ln (v (L T4) 0)))
    (.guard (le (c 0) (v I 1))
     (.guard (lt (v I 1) (ln (v (L T4) 0)))
      (.call f_laws_toTerm [a (f (ix (v (L T4) 0) (v I 1))), a (f (s (ix (v (L T4) 0) (v I 1)))), a (f (s (s (ix (v (L T4) 0) (v I 1))))), a (s (s (s (ix (v (L T4) 0) (v I 1)))))] 644
       (.guard (le (c 0) (v I 1))
        (.guard (lt (v I 1) (ln (v (L T4) 2)))
         (.jump 0 [a (v (L T4) 0), a (add (v I 1) (c 1)), a (st (v (L T4) 2) (v I 1) (pr (v I 644) (pr (v I 645) (pr (v I 646) (v I 647)))))]))))))
    (.ret [a (v (L T4) 2)]))))
def tr_laws_toIntS : Tr := .guard (le (c 0) (ln (v (L I) 0)))
 (.guard (le (ln (v (L I) 0)) (c 549755813888))
  (.loop [a (v (L I) 0), a (c 0), a (rep (ln (v (L I) 0)) (z I))]
   (.ite (lt (v I 1) (ln (v (L I) 0)))
    (.guard (le (c 0) (v I 1))
     (.guard (lt (v I 1) (ln (v (L I) 0)))
      (.guard (le (c 0) (v I 1))
       (.guard (lt (v I 1) (ln (v (L I) 2)))
        (.jump 0 [a (v (L I) 0), a (add (v I 1) (c 1)), a (st (v (L I) 2) (v I 1) (ix (v (L I) 0) (v I 1)))])))))
    (.ret [a (v (L I) 2)]))))
def tr_laws_toTermSS : Tr := .guard (le (c 0) (ln (v (L (L T4)) 0)))
 (.guard (le (ln (v (L (L T4)) 0)) (c 549755813888))
  (.loop [a (v (L (L T4)) 0), a (c 0), a (rep (ln (v (L (L T4)) 0)) (z (L T4)))]
   (.ite (lt (v I 1) (ln (v (L (L T4)) 0)))
    (.guard (le (c 0) (v I 1))
     (.guard (lt (v I 1) (ln (v (L (L T4)) 0)))
      (.call f_laws_toTermS [a (ix (v (L (L T4)) 0) (v I 1))] 644
       (.guard (le (c 0) (v I 1))
        (.guard (lt (v I 1) (ln (v (L (L T4)) 2)))
         (.jump 0 [a (v (L (L T4)) 0), a (add (v I 1) (c 1)), a (st (v (L (L T4)) 2) (v I 1) (v (L T4) 644))]))))))
    (.ret [a (v (L (L T4)) 2)]))))
def tr_laws_toRule : Tr := .call f_laws_toTermS [a (v (L T4) 0)] 100320
 (.call f_laws_toIntS [a (v (L I) 1)] 100640
  (.call f_laws_toTermSS [a (v (L (L T4)) 2)] 100960
   (.ret [a (v (L T4) 100320), a (v (L I) 100640), a (v (L (L T4)) 100960)])))
def tr_laws_toRuleS : Tr := .guard (le (c 0) (ln (v (L TR) 0)))
 (.guard (le (ln (v (L TR) 0)) (c 549755813888))
  (.loop [a (v (L TR) 0), a (c 0), a (rep (ln (v (L TR) 0)) (z TR))]
   (.ite (lt (v I 1) (ln (v (L TR) 0)))
    (.guard (le (c 0) (v I 1))
     (.guard (lt (v I 1) (ln (v (L TR) 0)))
      (.call f_laws_toRule [a (f (ix (v (L TR) 0) (v I 1))), a (f (s (ix (v (L TR) 0) (v I 1)))), a (s (s (ix (v (L TR) 0) (v I 1))))] 644
       (.guard (le (c 0) (v I 1))
        (.guard (lt (v I 1) (ln (v (L TR) 2)))
         (.jump 0 [a (v (L TR) 0), a (add (v I 1) (c 1)), a (st (v (L TR) 2) (v I 1) (pr (v (L T4) 644) (pr (v (L I) 645) (v (L (L T4)) 646))))]))))))
    (.ret [a (v (L TR) 2)]))))
def tr_laws_toSystem : Tr := .call f_laws_toVarS [a (v (L V3) 0)] 100320
 (.call f_laws_toRuleS [a (v (L TR) 1)] 100640
  (.ret [a (v (L V3) 100320), a (v (L TR) 100640)]))
def tr_spec_l1In : Tr := .ite (ge (v I 0) (v I 1))
 (.ret [a (le (v I 0) (v I 2))])
 (.ret [a (k false)])
def tr_spec_l2Var : Tr := .call f_spec_l1In [a (v I 0), a (c (-9999)), a (c 9999)] 100256
 (.ite (v B 100256)
  (.call f_spec_l1In [a (v I 1), a (v I 0), a (c 9999)] 100640
   (.ite (v B 100640)
    (.ite (lt (sub (v I 1) (v I 0)) (c 20))
     (.call f_spec_l1In [a (v I 2), a (v I 0), a (v I 1)] 101728
      (.ret [a (v B 101728)]))
     (.ret [a (k false)]))
    (.ret [a (k false)])))
  (.ret [a (k false)]))
def tr_spec_l1One : Tr := .ret [a (eq (v I 0) (c 7))]
def tr_spec_l1Kind : Tr := .join
 (.ite (eq (v I 0) (c 0))
  (.call f_spec_l1In [a (v I 1), a (c (-9999)), a (c 9999)] 100512
   (.ite (v B 100512)
    (.ite (eq (v I 2) (c 0))
     (.ite (eq (v I 3) (c 0))
      (.ret [a (c 1)])
      (.jump 0 [a (v (L I) 4), a (v I 5), a (v I 0), a (v I 1), a (v I 2), a (v I 3)]))
     (.jump 0 [a (v (L I) 4), a (v I 5), a (v I 0), a (v I 1), a (v I 2), a (v I 3)]))
    (.jump 0 [a (v (L I) 4), a (v I 5), a (v I 0), a (v I 1), a (v I 2), a (v I 3)])))
  (.jump 0 [a (v (L I) 4), a (v I 5), a (v I 0), a (v I 1), a (v I 2), a (v I 3)]))
 (.join
  (.ite (eq (v I 2) (c 1))
   (.call f_spec_l1In [a (v I 3), a (c 0), a (sub (v I 1) (c 1))] 519
    (.ite (v B 519)
     (.ite (eq (v I 4) (c 0))
      (.ite (eq (v I 5) (c 0))
       (.ret [a (c 1)])
       (.jump 0 [a (v (L I) 0), a (v I 2), a (v I 3), a (v I 4), a (v I 5)]))
      (.jump 0 [a (v (L I) 0), a (v I 2), a (v I 3), a (v I 4), a (v I 5)]))
     (.jump 0 [a (v (L I) 0), a (v I 2), a (v I 3), a (v I 4), a (v I 5)])))
   (.jump 0 [a (v (L I) 0), a (v I 2), a (v I 3), a (v I 4), a (v I 5)]))
  (.call f_spec_l1In [a (v I 1), a (c 2), a (c 9)] 134
   (.ite (nt (v B 134))
    (.ret [a (c 0)])
    (.ite (ne (v I 2) (c 0))
     (.ret [a (c 0)])
     (.call f_spec_l1In [a (v I 3), a (c 0), a (sub (ln (v (L I) 0)) (c 1))] 966
      (.ite (nt (v B 966))
       (.ret [a (c 0)])
       (.call f_spec_l1In [a (v I 4), a (c 0), a (sub (ln (v (L I) 0)) (c 1))] 1542
        (.ite (nt (v B 1542))
         (.ret [a (c 0)])
         (.join
          (.ite (ge (v I 1) (c 7))
           (.jump 0 [a (v (L I) 0), a (c 2), a (v I 1), a (v I 2), a (v I 3), a (v I 4)])
           (.jump 0 [a (v (L I) 0), a (c 1), a (v I 1), a (v I 2), a (v I 3), a (v I 4)]))
          (.join
           (.guard (le (c 0) (v I 4))
            (.guard (lt (v I 4) (ln (v (L I) 0)))
             (.ite (ne (ix (v (L I) 0) (v I 4)) (v I 1))
              (.ret [a (c 0)])
              (.guard (le (c 0) (v I 5))
               (.guard (lt (v I 5) (ln (v (L I) 0)))
                (.ite (ne (ix (v (L I) 0) (v I 5)) (v I 1))
                 (.ret [a (c 0)])
                 (.call f_spec_l1One [a (v I 2)] 1223
                  (.ite (v B 1223)
                   (.ite (ne (v I 5) (v I 4))
                    (.ret [a (c 0)])
                    (.jump 0 [a (v I 2), a (v I 3), a (v I 4), a (v I 5)]))
                   (.jump 0 [a (v I 2), a (v I 3), a (v I 4), a (v I 5)])))))))))
           (.ite (ge (v I 0) (c 5))
            (.ret [a (c 2)])
            (.ret [a (c 1)]))))))))))))
def tr_spec_KindsOf : Tr := .call f_spec_l1In [a (v I 1), a (c 0), a (c 5)] 100128
 (.ite (nt (v B 100128))
  (.ret [a (nl I)])
  (.call f_spec_l1In [a (ln (v (L T4) 0)), a (c 1), a (c 40)] 100448
   (.ite (nt (v B 100448))
    (.ret [a (nl I)])
    (.loop [a (v (L T4) 0), a (v I 1), a (c 0), a (nl I)]
     (.ite (lt (v I 2) (ln (v (L T4) 0)))
      (.guard (le (c 0) (v I 2))
       (.guard (lt (v I 2) (ln (v (L T4) 0)))
        (.call f_spec_l1Kind [a (f (ix (v (L T4) 0) (v I 2))), a (f (s (ix (v (L T4) 0) (v I 2)))), a (f (s (s (ix (v (L T4) 0) (v I 2))))), a (s (s (s (ix (v (L T4) 0) (v I 2))))), a (v (L I) 3), a (v I 1)] 645
         (.ite (eq (v I 645) (c 0))
          (.ret [a (nl I)])
          (.guard (le (ln (v (L I) 3)) (c 549755813888))
           (.guard (le (ln (one (v I 645))) (c 549755813888))
            (.jump 0 [a (v (L T4) 0), a (v I 1), a (add (v I 2) (c 1)), a (app (v (L I) 3) (one (v I 645)))])))))))
      (.ret [a (v (L I) 3)]))))))
def tr_spec_l2Is : Tr := .call f_spec_KindsOf [a (v (L T4) 0), a (v I 1)] 100192
 (.ite (gt (ln (v (L I) 100192)) (c 0))
  (.guard (le (c 0) (sub (ln (v (L I) 100192)) (c 1)))
   (.guard (lt (sub (ln (v (L I) 100192)) (c 1)) (ln (v (L I) 100192)))
    (.ret [a (eq (ix (v (L I) 100192) (sub (ln (v (L I) 100192)) (c 1))) (v I 2))])))
  (.ret [a (k false)]))
def tr_spec_l2Rule : Tr := .call f_spec_l2Is [a (v (L T4) 0), a (v I 3), a (c 2)] 100320
 (.ite (nt (v B 100320))
  (.ret [a (k false)])
  (.ite (ne (ln (v (L I) 1)) (ln (v (L (L T4)) 2)))
   (.ret [a (k false)])
   (.ite (gt (ln (v (L I) 1)) (v I 3))
    (.ret [a (k false)])
    (.loop [a (v I 3), a (c 0), a (v (L T4) 0), a (v (L I) 1), a (v (L (L T4)) 2)]
     (.ite (lt (v I 1) (ln (v (L I) 3)))
      (.join
       (.guard (le (c 0) (v I 1))
        (.guard (lt (v I 1) (ln (v (L I) 3)))
         (.call f_spec_l1In [a (ix (v (L I) 3) (v I 1)), a (c 0), a (sub (v I 0) (c 1))] 774
          (.ite (nt (v B 774))
           (.ret [a (k false)])
           (.ite (gt (v I 1) (c 0))
            (.guard (le (c 0) (v I 1))
             (.guard (lt (v I 1) (ln (v (L I) 3)))
              (.guard (le (c 0) (sub (v I 1) (c 1)))
               (.guard (lt (sub (v I 1) (c 1)) (ln (v (L I) 3)))
                (.ite (le (ix (v (L I) 3) (v I 1)) (ix (v (L I) 3) (sub (v I 1) (c 1))))
                 (.ret [a (k false)])
                 (.guard (le (c 0) (v I 1))
                  (.guard (lt (v I 1) (ln (v (L (L T4)) 4)))
                   (.call f_spec_l2Is [a (ix (v (L (L T4)) 4) (v I 1)), a (v I 0), a (c 1)] 2502
                    (.ite (nt (v B 2502))
                     (.ret [a (k false)])
                     (.jump 0 [a (v I 0), a (v I 1), a (v (L T4) 2), a (v (L I) 3), a (v (L (L T4)) 4)]))))))))))
            (.guard (le (c 0) (v I 1))
             (.guard (lt (v I 1) (ln (v (L (L T4)) 4)))
              (.call f_spec_l2Is [a (ix (v (L (L T4)) 4) (v I 1)), a (v I 0), a (c 1)] 2502
               (.ite (nt (v B 2502))
                (.ret [a (k false)])
                (.jump 0 [a (v I 0), a (v I 1), a (v (L T4) 2), a (v (L I) 3), a (v (L (L T4)) 4)]))))))))))
       (.jump 0 [a (v I 0), a (add (v I 1) (c 1)), a (v (L T4) 2), a (v (L I) 3), a (v (L (L T4)) 4)]))
      (.ret [a (k true)]))))))
def tr_spec_SystemValid : Tr := .call f_spec_l1In [a (ln (v (L V3) 0)), a (c 1), a (c 5)] 100320
 (.ite (nt (v B 100320))
  (.ret [a (k false)])
  (.ite (gt (ln (v (L TR) 1)) (c 8))
   (.ret [a (k false)])
   (.loop [a (c 1), a (c 0), a (v (L V3) 0), a (v (L TR) 1)]
    (.ite (lt (v I 1) (ln (v (L V3) 2)))
     (.guard (le (c 0) (v I 1))
      (.guard (lt (v I 1) (ln (v (L V3) 2)))
       (.call f_spec_l2Var [a (f (ix (v (L V3) 2) (v I 1))), a (f (s (ix (v (L V3) 2) (v I 1)))), a (s (s (ix (v (L V3) 2) (v I 1))))] 645
        (.ite (nt (v B 645))
         (.ret [a (k false)])
         (.guard (le (c 0) (v I 1))
          (.guard (lt (v I 1) (ln (v (L V3) 2)))
           (.guard (le (c 0) (v I 1))
            (.guard (lt (v I 1) (ln (v (L V3) 2)))
             (.jump 0 [a (mul (v I 0) (add (sub (f (s (ix (v (L V3) 2) (v I 1)))) (f (ix (v (L V3) 2) (v I 1)))) (c 1))), a (add (v I 1) (c 1)), a (v (L V3) 2), a (v (L TR) 3)])))))))))
     (.loop [a (v I 0), a (c 0), a (v (L V3) 2), a (v (L TR) 3)]
      (.ite (lt (v I 1) (ln (v (L TR) 3)))
       (.guard (le (c 0) (v I 1))
        (.guard (lt (v I 1) (ln (v (L TR) 3)))
         (.call f_spec_l2Rule [a (f (ix (v (L TR) 3) (v I 1))), a (f (s (ix (v (L TR) 3) (v I 1)))), a (s (s (ix (v (L TR) 3) (v I 1)))), a (ln (v (L V3) 2))] 837
          (.ite (nt (v B 837))
           (.ret [a (k false)])
           (.jump 0 [a (v I 0), a (add (v I 1) (c 1)), a (v (L V3) 2), a (v (L TR) 3)])))))
       (.ret [a (le (v I 0) (c 400))])))))))
def tr_spec_l6Many : Tr := .loop [a (v I 0), a (c 0), a (c 1)]
 (.ite (lt (v I 2) (v I 0))
  (.jump 0 [a (v I 0), a (add (v I 1) (c 1)), a (mul (v I 2) (c 2))])
  (.ret [a (v I 1)]))
def tr_spec_l6Widths : Tr := .loop [a (c 0), a (v (L V3) 0), a (v (L TR) 1), a (nl I)]
 (.ite (lt (v I 0) (ln (v (L V3) 1)))
  (.guard (le (c 0) (v I 0))
   (.guard (lt (v I 0) (ln (v (L V3) 1)))
    (.guard (le (c 0) (v I 0))
     (.guard (lt (v I 0) (ln (v (L V3) 1)))
      (.call f_spec_l6Many [a (add (sub (f (s (ix (v (L V3) 1) (v I 0)))) (f (ix (v (L V3) 1) (v I 0)))) (c 1))] 1286
       (.guard (le (ln (v (L I) 3)) (c 549755813888))
        (.guard (le (ln (one (v I 1286))) (c 549755813888))
         (.jump 0 [a (add (v I 0) (c 1)), a (v (L V3) 1), a (v (L TR) 2), a (app (v (L I) 3) (one (v I 1286)))]))))))))
  (.ret [a (v (L I) 3)]))
def tr_spec_l6Sum : Tr := .loop [a (v (L I) 0), a (c 0), a (c 0)]
 (.ite (lt (v I 2) (ln (v (L I) 0)))
  (.guard (le (c 0) (v I 2))
   (.guard (lt (v I 2) (ln (v (L I) 0)))
    (.jump 0 [a (v (L I) 0), a (add (v I 1) (ix (v (L I) 0) (v I 2))), a (add (v I 2) (c 1))])))
  (.ret [a (v I 1)]))
def tr_spec_l10Wide : Tr := .call f_spec_SystemValid [a (v (L V3) 0), a (v (L TR) 1)] 100192
 (.ite (nt (v B 100192))
  (.ret [a (c (-1))])
  (.call f_spec_l6Widths [a (v (L V3) 0), a (v (L TR) 1)] 100384
   (.call f_spec_l6Sum [a (v (L I) 100384)] 100448
    (.ite (gt (mul (c 2) (v I 100448)) (c 12))
     (.ret [a (c (-1))])
     (.ret [a (v I 100448)])))))
def tr_spec_SizeOf : Tr := .call f_spec_SystemValid [a (v (L V3) 0), a (v (L TR) 1)] 100192
 (.ite (nt (v B 100192))
  (.ret [a (c 0)])
  (.loop [a (c 1), a (c 0), a (v (L V3) 0), a (v (L TR) 1)]
   (.ite (lt (v I 1) (ln (v (L V3) 2)))
    (.guard (le (c 0) (v I 1))
     (.guard (lt (v I 1) (ln (v (L V3) 2)))
      (.guard (le (c 0) (v I 1))
       (.guard (lt (v I 1) (ln (v (L V3) 2)))
        (.jump 0 [a (mul (v I 0) (add (sub (f (s (ix (v (L V3) 2) (v I 1)))) (f (ix (v (L V3) 2) (v I 1)))) (c 1))), a (add (v I 1) (c 1)), a (v (L V3) 2), a (v (L TR) 3)])))))
    (.ret [a (v I 0)]))))
def tr_spec_FirstState : Tr := .join
 (.loop [a (c 0), a (v (L V3) 0), a (v (L TR) 1), a (nl I)]
  (.ite (lt (v I 0) (ln (v (L V3) 1)))
   (.call f_spec_SystemValid [a (v (L V3) 1), a (v (L TR) 2)] 454
    (.ite (v B 454)
     (.guard (le (c 0) (v I 0))
      (.guard (lt (v I 0) (ln (v (L V3) 1)))
       (.guard (le (ln (v (L I) 3)) (c 549755813888))
        (.guard (le (ln (one (s (s (ix (v (L V3) 1) (v I 0)))))) (c 549755813888))
         (.jump 0 [a (add (v I 0) (c 1)), a (v (L V3) 1), a (v (L TR) 2), a (app (v (L I) 3) (one (s (s (ix (v (L V3) 1) (v I 0))))))])))))
     (.jump 1 [a (v (L I) 3)])))
   (.jump 1 [a (v (L I) 3)])))
 (.ret [a (v (L I) 0)])
end Go.Proofs.YtboikipchhgdlaaGreat
namespace Go.Proofs.YtboikipchhgdlaaGreat
open Go Go.Sm Go.Sm.Q
def tr_spec_l3Copy : Tr := .loop [a (v (L I) 0), a (c 0), a (nl I)]
 (.ite (lt (v I 1) (ln (v (L I) 0)))
  (.guard (le (c 0) (v I 1))
   (.guard (lt (v I 1) (ln (v (L I) 0)))
    (.guard (le (ln (v (L I) 2)) (c 549755813888))
     (.guard (le (ln (one (ix (v (L I) 0) (v I 1)))) (c 549755813888))
      (.jump 0 [a (v (L I) 0), a (add (v I 1) (c 1)), a (app (v (L I) 2) (one (ix (v (L I) 0) (v I 1))))])))))
  (.ret [a (v (L I) 2)]))
def tr_spec_l4State : Tr := .call f_spec_FirstState [a (v (L V3) 0), a (v (L TR) 1)] 100192
 (.call f_spec_l3Copy [a (v (L I) 100192)] 100256
  (.loop [a (v I 2), a (sub (ln (v (L V3) 0)) (c 1)), a (v (L V3) 0), a (v (L TR) 1), a (v (L I) 100256)]
   (.ite (ge (v I 1) (c 0))
    (.guard (le (c 0) (v I 1))
     (.guard (lt (v I 1) (ln (v (L V3) 2)))
      (.guard (le (c 0) (v I 1))
       (.guard (lt (v I 1) (ln (v (L V3) 2)))
        (.guard (le (c 0) (v I 1))
         (.guard (lt (v I 1) (ln (v (L V3) 2)))
          (.guard (ne (add (sub (f (s (ix (v (L V3) 2) (v I 1)))) (f (ix (v (L V3) 2) (v I 1)))) (c 1)) (c 0))
           (.guard (le (c 0) (v I 1))
            (.guard (lt (v I 1) (ln (v (L I) 4)))
             (.guard (ne (add (sub (f (s (ix (v (L V3) 2) (v I 1)))) (f (ix (v (L V3) 2) (v I 1)))) (c 1)) (c 0))
              (.jump 0 [a (quo (v I 0) (add (sub (f (s (ix (v (L V3) 2) (v I 1)))) (f (ix (v (L V3) 2) (v I 1)))) (c 1))), a (sub (v I 1) (c 1)), a (v (L V3) 2), a (v (L TR) 3), a (st (v (L I) 4) (v I 1) (add (f (ix (v (L V3) 2) (v I 1))) (rem (v I 0) (add (sub (f (s (ix (v (L V3) 2) (v I 1)))) (f (ix (v (L V3) 2) (v I 1)))) (c 1)))))])))))))))))
    (.ret [a (v (L I) 4)]))))
def tr_spec_l1Held : Tr := .ite (gt (v I 0) (c 9999))
 (.ret [a (c 9999)])
 (.ite (lt (v I 0) (c (-9999)))
  (.ret [a (c (-9999))])
  (.ret [a (v I 0)]))
def tr_spec_l1Truth : Tr := .ite (v B 0)
 (.ret [a (c 1)])
 (.ret [a (c 0)])
def tr_spec_l1Do : Tr := .ite (eq (v I 0) (c 2))
 (.call f_spec_l1Held [a (add (v I 1) (v I 2))] 100384
  (.ret [a (v I 100384)]))
 (.ite (eq (v I 0) (c 3))
  (.call f_spec_l1Held [a (sub (v I 1) (v I 2))] 100512
   (.ret [a (v I 100512)]))
  (.ite (eq (v I 0) (c 4))
   (.call f_spec_l1Held [a (mul (v I 1) (v I 2))] 100640
    (.ret [a (v I 100640)]))
   (.ite (eq (v I 0) (c 5))
    (.call f_spec_l1Truth [a (lt (v I 1) (v I 2))] 100768
     (.ret [a (v I 100768)]))
    (.ite (eq (v I 0) (c 6))
     (.call f_spec_l1Truth [a (eq (v I 1) (v I 2))] 100896
      (.ret [a (v I 100896)]))
     (.ite (eq (v I 0) (c 7))
      (.ret [a (sub (c 1) (v I 1))])
      (.ite (eq (v I 0) (c 8))
       (.ret [a (mul (v I 1) (v I 2))])
       (.call f_spec_l1Truth [a (gt (add (v I 1) (v I 2)) (c 0))] 101216
        (.ret [a (v I 101216)]))))))))
def tr_spec_l1Values : Tr := .loop [a (v (L T4) 0), a (v (L I) 1), a (c 0), a (nl I)]
 (.ite (lt (v I 2) (ln (v (L T4) 0)))
  (.join
   (.guard (le (c 0) (v I 2))
    (.guard (lt (v I 2) (ln (v (L T4) 0)))
     (.ite (eq (f (ix (v (L T4) 0) (v I 2))) (c 0))
      (.guard (le (ln (v (L I) 3)) (c 549755813888))
       (.guard (le (ln (one (f (s (ix (v (L T4) 0) (v I 2)))))) (c 549755813888))
        (.jump 0 [a (v (L T4) 0), a (v (L I) 1), a (v I 2), a (app (v (L I) 3) (one (f (s (ix (v (L T4) 0) (v I 2))))))])))
      (.ite (eq (f (ix (v (L T4) 0) (v I 2))) (c 1))
       (.guard (le (c 0) (f (s (ix (v (L T4) 0) (v I 2)))))
        (.guard (lt (f (s (ix (v (L T4) 0) (v I 2)))) (ln (v (L I) 1)))
         (.guard (le (ln (v (L I) 3)) (c 549755813888))
          (.guard (le (ln (one (ix (v (L I) 1) (f (s (ix (v (L T4) 0) (v I 2))))))) (c 549755813888))
           (.jump 0 [a (v (L T4) 0), a (v (L I) 1), a (v I 2), a (app (v (L I) 3) (one (ix (v (L I) 1) (f (s (ix (v (L T4) 0) (v I 2)))))))])))))
       (.guard (le (c 0) (f (s (s (ix (v (L T4) 0) (v I 2))))))
        (.guard (lt (f (s (s (ix (v (L T4) 0) (v I 2))))) (ln (v (L I) 3)))
         (.guard (le (c 0) (s (s (s (ix (v (L T4) 0) (v I 2))))))
          (.guard (lt (s (s (s (ix (v (L T4) 0) (v I 2))))) (ln (v (L I) 3)))
           (.call f_spec_l1Do [a (f (ix (v (L T4) 0) (v I 2))), a (ix (v (L I) 3) (f (s (s (ix (v (L T4) 0) (v I 2)))))), a (ix (v (L I) 3) (s (s (s (ix (v (L T4) 0) (v I 2))))))] 1861
            (.guard (le (ln (v (L I) 3)) (c 549755813888))
             (.guard (le (ln (one (v I 1861))) (c 549755813888))
              (.jump 0 [a (v (L T4) 0), a (v (L I) 1), a (v I 2), a (app (v (L I) 3) (one (v I 1861)))]))))))))))))
   (.jump 0 [a (v (L T4) 0), a (v (L I) 1), a (add (v I 2) (c 1)), a (v (L I) 3)]))
  (.ret [a (v (L I) 3)]))
def tr_spec_l2Last : Tr := .call f_spec_l1Values [a (v (L T4) 0), a (v (L I) 1)] 100192
 (.guard (le (c 0) (sub (ln (v (L T4) 0)) (c 1)))
  (.guard (lt (sub (ln (v (L T4) 0)) (c 1)) (ln (v (L I) 100192)))
   (.ret [a (ix (v (L I) 100192) (sub (ln (v (L T4) 0)) (c 1)))])))
def tr_spec_l2In : Tr := .ite (ne (ln (v (L I) 2)) (ln (v (L V3) 0)))
 (.ret [a (k false)])
 (.loop [a (v (L I) 2), a (c 0), a (v (L V3) 0), a (v (L TR) 1)]
  (.ite (lt (v I 1) (ln (v (L I) 0)))
   (.guard (le (c 0) (v I 1))
    (.guard (lt (v I 1) (ln (v (L I) 0)))
     (.guard (le (c 0) (v I 1))
      (.guard (lt (v I 1) (ln (v (L V3) 2)))
       (.guard (le (c 0) (v I 1))
        (.guard (lt (v I 1) (ln (v (L V3) 2)))
         (.call f_spec_l1In [a (ix (v (L I) 0) (v I 1)), a (f (ix (v (L V3) 2) (v I 1))), a (f (s (ix (v (L V3) 2) (v I 1))))] 1285
          (.ite (nt (v B 1285))
           (.ret [a (k false)])
           (.jump 0 [a (v (L I) 0), a (add (v I 1) (c 1)), a (v (L V3) 2), a (v (L TR) 3)])))))))))
   (.ret [a (k true)])))
def tr_spec_l2Use : Tr := .guard (le (c 0) (v I 3))
 (.guard (lt (v I 3) (ln (v (L TR) 1)))
  (.call f_spec_l2Last [a (f (ix (v (L TR) 1) (v I 3))), a (v (L I) 2)] 100768
   (.ite (eq (v I 100768) (c 0))
    (.ret [a (nl I)])
    (.loop [a (v (L I) 2), a (c 0), a (v (L V3) 0), a (v (L TR) 1), a (f (ix (v (L TR) 1) (v I 3))), a (f (s (ix (v (L TR) 1) (v I 3)))), a (s (s (ix (v (L TR) 1) (v I 3)))), a (nl I)]
     (.ite (lt (v I 1) (ln (v (L I) 0)))
      (.guard (le (c 0) (v I 1))
       (.guard (lt (v I 1) (ln (v (L I) 0)))
        (.guard (le (ln (v (L I) 7)) (c 549755813888))
         (.guard (le (ln (one (ix (v (L I) 0) (v I 1)))) (c 549755813888))
          (.jump 0 [a (v (L I) 0), a (add (v I 1) (c 1)), a (v (L V3) 2), a (v (L TR) 3), a (v (L T4) 4), a (v (L I) 5), a (v (L (L T4)) 6), a (app (v (L I) 7) (one (ix (v (L I) 0) (v I 1))))])))))
      (.loop [a (v (L I) 0), a (c 0), a (v (L V3) 2), a (v (L TR) 3), a (v (L T4) 4), a (v (L I) 5), a (v (L (L T4)) 6), a (v (L I) 7)]
       (.ite (lt (v I 1) (ln (v (L I) 5)))
        (.guard (le (c 0) (v I 1))
         (.guard (lt (v I 1) (ln (v (L I) 5)))
          (.guard (le (c 0) (v I 1))
           (.guard (lt (v I 1) (ln (v (L (L T4)) 6)))
            (.call f_spec_l2Last [a (ix (v (L (L T4)) 6) (v I 1)), a (v (L I) 0)] 1099
             (.guard (le (c 0) (ix (v (L I) 5) (v I 1)))
              (.guard (lt (ix (v (L I) 5) (v I 1)) (ln (v (L I) 7)))
               (.jump 0 [a (v (L I) 0), a (add (v I 1) (c 1)), a (v (L V3) 2), a (v (L TR) 3), a (v (L T4) 4), a (v (L I) 5), a (v (L (L T4)) 6), a (st (v (L I) 7) (ix (v (L I) 5) (v I 1)) (v I 1099))]))))))))
        (.call f_spec_l2In [a (v (L V3) 2), a (v (L TR) 3), a (v (L I) 7)] 459
         (.ite (nt (v B 459))
          (.ret [a (nl I)])
          (.ret [a (v (L I) 7)]))))))))))
def tr_spec_l2Same : Tr := .ite (ne (ln (v (L I) 0)) (ln (v (L I) 1)))
 (.ret [a (k false)])
 (.loop [a (v (L I) 0), a (v (L I) 1), a (c 0)]
  (.ite (lt (v I 2) (ln (v (L I) 0)))
   (.guard (le (c 0) (v I 2))
    (.guard (lt (v I 2) (ln (v (L I) 0)))
     (.guard (le (c 0) (v I 2))
      (.guard (lt (v I 2) (ln (v (L I) 1)))
       (.ite (ne (ix (v (L I) 0) (v I 2)) (ix (v (L I) 1) (v I 2)))
        (.ret [a (k false)])
        (.jump 0 [a (v (L I) 0), a (v (L I) 1), a (add (v I 2) (c 1))]))))))
   (.ret [a (k true)])))
def tr_spec_l2Less : Tr := .join
 (.loop [a (v (L I) 0), a (v (L I) 1), a (c 0)]
  (.ite (lt (v I 2) (ln (v (L I) 0)))
   (.ite (lt (v I 2) (ln (v (L I) 1)))
    (.guard (le (c 0) (v I 2))
     (.guard (lt (v I 2) (ln (v (L I) 0)))
      (.guard (le (c 0) (v I 2))
       (.guard (lt (v I 2) (ln (v (L I) 1)))
        (.ite (ne (ix (v (L I) 0) (v I 2)) (ix (v (L I) 1) (v I 2)))
         (.guard (le (c 0) (v I 2))
          (.guard (lt (v I 2) (ln (v (L I) 0)))
           (.guard (le (c 0) (v I 2))
            (.guard (lt (v I 2) (ln (v (L I) 1)))
             (.ret [a (lt (ix (v (L I) 0) (v I 2)) (ix (v (L I) 1) (v I 2)))])))))
         (.jump 0 [a (v (L I) 0), a (v (L I) 1), a (add (v I 2) (c 1))]))))))
    (.jump 1 [a (v (L I) 0), a (v (L I) 1)]))
   (.jump 1 [a (v (L I) 0), a (v (L I) 1)])))
 (.ret [a (lt (ln (v (L I) 0)) (ln (v (L I) 1)))])
def tr_spec_l2Put : Tr := .loop [a (v (L (L I)) 0), a (v (L I) 1), a (k false), a (c 0), a (nl (L I))]
 (.ite (lt (v I 3) (ln (v (L (L I)) 0)))
  (.join
   (.ite (nt (v B 2))
    (.guard (le (c 0) (v I 3))
     (.guard (lt (v I 3) (ln (v (L (L I)) 0)))
      (.call f_spec_l2Same [a (ix (v (L (L I)) 0) (v I 3)), a (v (L I) 1)] 774
       (.ite (v B 774)
        (.jump 0 [a (v (L (L I)) 0), a (v (L I) 1), a (k true), a (v I 3), a (v (L (L I)) 4)])
        (.jump 0 [a (v (L (L I)) 0), a (v (L I) 1), a (v B 2), a (v I 3), a (v (L (L I)) 4)])))))
    (.jump 0 [a (v (L (L I)) 0), a (v (L I) 1), a (v B 2), a (v I 3), a (v (L (L I)) 4)]))
   (.join
    (.ite (nt (v B 2))
     (.guard (le (c 0) (v I 3))
      (.guard (lt (v I 3) (ln (v (L (L I)) 0)))
       (.call f_spec_l2Less [a (v (L I) 1), a (ix (v (L (L I)) 0) (v I 3))] 518
        (.ite (v B 518)
         (.guard (le (ln (v (L (L I)) 4)) (c 549755813888))
          (.guard (le (ln (one (v (L I) 1))) (c 549755813888))
           (.jump 0 [a (v (L (L I)) 0), a (v (L I) 1), a (k true), a (v I 3), a (app (v (L (L I)) 4) (one (v (L I) 1)))])))
         (.jump 0 [a (v (L (L I)) 0), a (v (L I) 1), a (v B 2), a (v I 3), a (v (L (L I)) 4)])))))
     (.jump 0 [a (v (L (L I)) 0), a (v (L I) 1), a (v B 2), a (v I 3), a (v (L (L I)) 4)]))
    (.guard (le (c 0) (v I 3))
     (.guard (lt (v I 3) (ln (v (L (L I)) 0)))
      (.guard (le (ln (v (L (L I)) 4)) (c 549755813888))
       (.guard (le (ln (one (ix (v (L (L I)) 0) (v I 3)))) (c 549755813888))
        (.jump 0 [a (v (L (L I)) 0), a (v (L I) 1), a (v B 2), a (add (v I 3) (c 1)), a (app (v (L (L I)) 4) (one (ix (v (L (L I)) 0) (v I 3))))])))))))
  (.join
   (.ite (nt (v B 2))
    (.guard (le (ln (v (L (L I)) 4)) (c 549755813888))
     (.guard (le (ln (one (v (L I) 1))) (c 549755813888))
      (.jump 0 [a (app (v (L (L I)) 4) (one (v (L I) 1)))])))
    (.jump 0 [a (v (L (L I)) 4)]))
   (.ret [a (v (L (L I)) 0)])))
def tr_spec_l2Next : Tr := .loop [a (v (L I) 2), a (c 0), a (v (L V3) 0), a (v (L TR) 1), a (nl (L I))]
 (.ite (lt (v I 1) (ln (v (L TR) 3)))
  (.join
   (.call f_spec_l2Use [a (v (L V3) 2), a (v (L TR) 3), a (v (L I) 0), a (v I 1)] 519
    (.ite (gt (ln (v (L I) 519)) (c 0))
     (.call f_spec_l2Put [a (v (L (L I)) 4), a (v (L I) 519)] 967
      (.jump 0 [a (v (L I) 0), a (v I 1), a (v (L V3) 2), a (v (L TR) 3), a (v (L (L I)) 967)]))
     (.jump 0 [a (v (L I) 0), a (v I 1), a (v (L V3) 2), a (v (L TR) 3), a (v (L (L I)) 4)])))
   (.jump 0 [a (v (L I) 0), a (add (v I 1) (c 1)), a (v (L V3) 2), a (v (L TR) 3), a (v (L (L I)) 4)]))
  (.ret [a (v (L (L I)) 4)]))
def tr_spec_l4Number : Tr := .loop [a (v (L I) 2), a (c 0), a (c 0), a (v (L V3) 0), a (v (L TR) 1)]
 (.ite (lt (v I 2) (ln (v (L I) 0)))
  (.guard (le (c 0) (v I 2))
   (.guard (lt (v I 2) (ln (v (L V3) 3)))
    (.guard (le (c 0) (v I 2))
     (.guard (lt (v I 2) (ln (v (L V3) 3)))
      (.guard (le (c 0) (v I 2))
       (.guard (lt (v I 2) (ln (v (L I) 0)))
        (.guard (le (c 0) (v I 2))
         (.guard (lt (v I 2) (ln (v (L V3) 3)))
          (.jump 0 [a (v (L I) 0), a (sub (add (mul (v I 1) (add (sub (f (s (ix (v (L V3) 3) (v I 2)))) (f (ix (v (L V3) 3) (v I 2)))) (c 1))) (ix (v (L I) 0) (v I 2))) (f (ix (v (L V3) 3) (v I 2)))), a (add (v I 2) (c 1)), a (v (L V3) 3), a (v (L TR) 4)])))))))))
  (.ret [a (v I 1)]))
def tr_spec_l4Steps : Tr := .loop [a (c 0), a (v (L V3) 0), a (v (L TR) 1), a (nl (L I))]
 (.call f_spec_SizeOf [a (v (L V3) 1), a (v (L TR) 2)] 134
  (.ite (lt (v I 0) (v I 134))
   (.call f_spec_l4State [a (v (L V3) 1), a (v (L TR) 2), a (v I 0)] 454
    (.call f_spec_l2Next [a (v (L V3) 1), a (v (L TR) 2), a (v (L I) 454)] 518
     (.loop [a (v I 0), a (c 0), a (v (L V3) 1), a (v (L TR) 2), a (v (L (L I)) 3), a (v (L (L I)) 518), a (nl I)]
      (.ite (lt (v I 1) (ln (v (L (L I)) 5)))
       (.guard (le (c 0) (v I 1))
        (.guard (lt (v I 1) (ln (v (L (L I)) 5)))
         (.call f_spec_l4Number [a (v (L V3) 2), a (v (L TR) 3), a (ix (v (L (L I)) 5) (v I 1))] 651
          (.guard (le (ln (v (L I) 6)) (c 549755813888))
           (.guard (le (ln (one (v I 651))) (c 549755813888))
            (.jump 0 [a (v I 0), a (add (v I 1) (c 1)), a (v (L V3) 2), a (v (L TR) 3), a (v (L (L I)) 4), a (v (L (L I)) 5), a (app (v (L I) 6) (one (v I 651)))]))))))
       (.guard (le (ln (v (L (L I)) 4)) (c 549755813888))
        (.guard (le (ln (one (v (L I) 6))) (c 549755813888))
         (.jump 1 [a (add (v I 0) (c 1)), a (v (L V3) 2), a (v (L TR) 3), a (app (v (L (L I)) 4) (one (v (L I) 6)))])))))))
   (.ret [a (v (L (L I)) 3)])))
def tr_spec_l6Value : Tr := .loop [a (v I 0), a (sub (v I 1) (c 1)), a (nl I)]
 (.ite (ge (v I 1) (c 0))
  (.guard (le (c 0) (v I 1))
   (.guard (le (ln (v (L I) 2)) (c 549755813888))
    (.guard (le (ln (one (rem (.o2 (.sh false .i64 .i64) (v I 0) (v I 1)) (c 2)))) (c 549755813888))
     (.jump 0 [a (v I 0), a (sub (v I 1) (c 1)), a (app (v (L I) 2) (one (rem (.o2 (.sh false .i64 .i64) (v I 0) (v I 1)) (c 2))))]))))
  (.ret [a (v (L I) 2)]))
def tr_spec_l6State : Tr := .call f_spec_l6Widths [a (v (L V3) 0), a (v (L TR) 1)] 100320
 (.loop [a (v (L I) 2), a (c 0), a (v (L V3) 0), a (v (L TR) 1), a (nl I), a (v (L I) 100320)]
  (.ite (lt (v I 1) (ln (v (L I) 0)))
   (.guard (le (c 0) (v I 1))
    (.guard (lt (v I 1) (ln (v (L I) 0)))
     (.guard (le (c 0) (v I 1))
      (.guard (lt (v I 1) (ln (v (L V3) 2)))
       (.guard (le (c 0) (v I 1))
        (.guard (lt (v I 1) (ln (v (L I) 5)))
         (.call f_spec_l6Value [a (sub (ix (v (L I) 0) (v I 1)) (f (ix (v (L V3) 2) (v I 1)))), a (ix (v (L I) 5) (v I 1))] 1225
          (.loop [a (v (L I) 0), a (v I 1), a (c 0), a (v (L V3) 2), a (v (L TR) 3), a (v (L I) 4), a (v (L I) 5), a (v (L I) 1225)]
           (.ite (lt (v I 2) (ln (v (L I) 7)))
            (.guard (le (c 0) (v I 2))
             (.guard (lt (v I 2) (ln (v (L I) 7)))
              (.guard (le (ln (v (L I) 5)) (c 549755813888))
               (.guard (le (ln (one (ix (v (L I) 7) (v I 2)))) (c 549755813888))
                (.jump 0 [a (v (L I) 0), a (v I 1), a (add (v I 2) (c 1)), a (v (L V3) 3), a (v (L TR) 4), a (app (v (L I) 5) (one (ix (v (L I) 7) (v I 2)))), a (v (L I) 6), a (v (L I) 7)])))))
            (.jump 1 [a (v (L I) 0), a (add (v I 1) (c 1)), a (v (L V3) 3), a (v (L TR) 4), a (v (L I) 5), a (v (L I) 6)]))))))))))
   (.ret [a (v (L I) 4)])))
def tr_spec_l10Both : Tr := .loop [a (v (L I) 0), a (v (L I) 1), a (c 0), a (nl I)]
 (.ite (lt (v I 2) (ln (v (L I) 0)))
  (.guard (le (c 0) (v I 2))
   (.guard (lt (v I 2) (ln (v (L I) 0)))
    (.guard (le (c 0) (v I 2))
     (.guard (lt (v I 2) (ln (v (L I) 1)))
      (.guard (le (ln (v (L I) 3)) (c 549755813888))
       (.guard (le (ln (app (one (ix (v (L I) 0) (v I 2))) (one (ix (v (L I) 1) (v I 2))))) (c 549755813888))
        (.jump 0 [a (v (L I) 0), a (v (L I) 1), a (add (v I 2) (c 1)), a (app (v (L I) 3) (app (one (ix (v (L I) 0) (v I 2))) (one (ix (v (L I) 1) (v I 2)))))])))))))
  (.ret [a (v (L I) 3)]))
def tr_spec_l10Steps : Tr := .call f_spec_l4Steps [a (v (L V3) 0), a (v (L TR) 1)] 100320
 (.loop [a (c 0), a (v (L V3) 0), a (v (L TR) 1), a (nl (L I)), a (v (L (L I)) 100320)]
  (.ite (lt (v I 0) (ln (v (L (L I)) 4)))
   (.loop [a (v I 0), a (c 0), a (v (L V3) 1), a (v (L TR) 2), a (v (L (L I)) 3), a (v (L (L I)) 4)]
    (.guard (le (c 0) (v I 0))
     (.guard (lt (v I 0) (ln (v (L (L I)) 5)))
      (.ite (lt (v I 1) (ln (ix (v (L (L I)) 5) (v I 0))))
       (.guard (le (c 0) (v I 0))
        (.guard (lt (v I 0) (ln (v (L (L I)) 5)))
         (.guard (le (c 0) (v I 1))
          (.guard (lt (v I 1) (ln (ix (v (L (L I)) 5) (v I 0))))
           (.call f_spec_l4State [a (v (L V3) 2), a (v (L TR) 3), a (v I 0)] 1289
            (.call f_spec_l6State [a (v (L V3) 2), a (v (L TR) 3), a (v (L I) 1289)] 1353
             (.call f_spec_l4State [a (v (L V3) 2), a (v (L TR) 3), a (ix (ix (v (L (L I)) 5) (v I 0)) (v I 1))] 1417
              (.call f_spec_l6State [a (v (L V3) 2), a (v (L TR) 3), a (v (L I) 1417)] 1481
               (.call f_spec_l10Both [a (v (L I) 1353), a (v (L I) 1481)] 1545
                (.guard (le (ln (v (L (L I)) 4)) (c 549755813888))
                 (.guard (le (ln (one (v (L I) 1545))) (c 549755813888))
                  (.jump 0 [a (v I 0), a (add (v I 1) (c 1)), a (v (L V3) 2), a (v (L TR) 3), a (app (v (L (L I)) 4) (one (v (L I) 1545))), a (v (L (L I)) 5)]))))))))))))
       (.jump 1 [a (add (v I 0) (c 1)), a (v (L V3) 2), a (v (L TR) 3), a (v (L (L I)) 4), a (v (L (L I)) 5)])))))
   (.ret [a (v (L (L I)) 3)])))
def tr_spec_l6Number : Tr := .loop [a (v (L I) 0), a (c 0), a (c 0)]
 (.ite (lt (v I 2) (ln (v (L I) 0)))
  (.guard (le (c 0) (v I 2))
   (.guard (lt (v I 2) (ln (v (L I) 0)))
    (.jump 0 [a (v (L I) 0), a (add (mul (v I 1) (c 2)) (ix (v (L I) 0) (v I 2))), a (add (v I 2) (c 1))])))
  (.ret [a (v I 1)]))
def tr_spec_l8Add : Tr := .ite (lt (v I 3) (c 0))
 (.ret [a (v I 0), a (v (L V3) 1), a (c (-1))])
 (.ite (lt (v I 4) (c 0))
  (.ret [a (v I 0), a (v (L V3) 1), a (c (-1))])
  (.ite (eq (v I 3) (v I 4))
   (.ret [a (v I 0), a (v (L V3) 1), a (v I 3)])
   (.loop [a (c 0), a (v I 0), a (v (L V3) 1), a (c 0), a (v I 2), a (v I 3), a (v I 4)]
    (.ite (lt (v I 0) (ln (v (L V3) 2)))
     (.guard (le (c 0) (v I 0))
      (.guard (lt (v I 0) (ln (v (L V3) 2)))
       (.ite (.o2 .and (eq (f (ix (v (L V3) 2) (v I 0))) (v I 4)) (.o2 .and (eq (f (s (ix (v (L V3) 2) (v I 0)))) (v I 5)) (eq (s (s (ix (v (L V3) 2) (v I 0)))) (v I 6))))
        (.ret [a (v I 1), a (v (L V3) 2), a (add (v I 0) (c 2))])
        (.jump 0 [a (add (v I 0) (c 1)), a (v I 1), a (v (L V3) 2), a (v I 3), a (v I 4), a (v I 5), a (v I 6)]))))
     (.ite (ge (ln (v (L V3) 2)) (c 2000))
      (.ret [a (v I 1), a (v (L V3) 2), a (c (-1))])
      (.guard (le (ln (v (L V3) 2)) (c 549755813888))
       (.guard (le (ln (one (pr (v I 4) (pr (v I 5) (v I 6))))) (c 549755813888))
        (.join
         (.jump 0 [a (add (ln (app (v (L V3) 2) (one (pr (v I 4) (pr (v I 5) (v I 6)))))) (c 1)), a (v I 1), a (app (v (L V3) 2) (one (pr (v I 4) (pr (v I 5) (v I 6)))))])
         (.ret [a (v I 1), a (v (L V3) 2), a (v I 0)])))))))))
def tr_spec_l8Rows : Tr := .ite (eq (v I 3) (v I 0))
 (.guard (lt (c 0) (ln (v (L I) 2)))
  (.join
   (.jump 0 [a (ix (v (L I) 2) (c 0)), a (v I 0), a (v (L V3) 1)])
   (.ret [a (v I 1), a (v (L V3) 2), a (v I 0)])))
 (.guard (le (quo (ln (v (L I) 2)) (c 2)) (ln (re false (v (L I) 2))))
  (.guard (le (c 0) (quo (ln (v (L I) 2)) (c 2)))
   (.call f_spec_l8Rows [a (v I 0), a (v (L V3) 1), a (take (re false (v (L I) 2)) (quo (ln (v (L I) 2)) (c 2))), a (add (v I 3) (c 1))] 101088
    (.join
     (.jump 0 [a (v (L I) 2), a (v I 3), a (quo (ln (v (L I) 2)) (c 2)), a (v I 101090), a (v I 0), a (c 0), a (v I 101088), a (v (L V3) 101089)])
     (.ite (lt (v I 3) (c 0))
      (.bad)
      (.guard (le (c 0) (v I 2))
       (.guard (le (v I 2) (ln (re false (v (L I) 0))))
        (.call f_spec_l8Rows [a (v I 6), a (v (L V3) 7), a (drop (re false (v (L I) 0)) (v I 2)), a (add (v I 1) (c 1))] 524
         (.join
          (.jump 0 [a (v I 1), a (v I 3), a (v I 526), a (v I 5), a (v I 524), a (v (L V3) 525)])
          (.call f_spec_l8Add [a (v I 4), a (v (L V3) 5), a (v I 0), a (v I 1), a (v I 2)] 265
           (.ret [a (v I 265), a (v (L V3) 266), a (v I 267)])))))))))))
def tr_spec_l10Of : Tr := .guard (le (c 0) (v I 0))
 (.guard (le (c 0) (.o2 (.sh true .i64 .i64) (c 1) (v I 0)))
  (.guard (le (.o2 (.sh true .i64 .i64) (c 1) (v I 0)) (.o2 (.sh true .i64 .i64) (c 1) (v I 0)))
   (.guard (le (.o2 (.sh true .i64 .i64) (c 1) (v I 0)) (c 549755813888))
    (.loop [a (v I 0), a (v (L (L I)) 1), a (c 0), a (c 0), a (rep (.o2 (.sh true .i64 .i64) (c 1) (v I 0)) (z I))]
     (.ite (lt (v I 2) (ln (v (L (L I)) 1)))
      (.guard (le (c 0) (v I 2))
       (.guard (lt (v I 2) (ln (v (L (L I)) 1)))
        (.call f_spec_l6Number [a (ix (v (L (L I)) 1) (v I 2))] 583
         (.guard (le (c 0) (v I 583))
          (.guard (lt (v I 583) (ln (v (L I) 4)))
           (.jump 0 [a (v I 0), a (v (L (L I)) 1), a (add (v I 2) (c 1)), a (v I 3), a (st (v (L I) 4) (v I 583) (c 1))]))))))
      (.call f_spec_l8Rows [a (v I 0), a (nl V3), a (v (L I) 4), a (c 0)] 455
       (.ret [a (v I 455), a (v (L V3) 456), a (v I 457)])))))))
def tr_spec_StepDiagram : Tr := .call f_spec_l10Wide [a (v (L V3) 0), a (v (L TR) 1)] 100256
 (.ite (lt (v I 100256) (c 0))
  (.ret [a (c 0), a (nl V3), a (c (-1))])
  (.call f_spec_l10Steps [a (v (L V3) 0), a (v (L TR) 1)] 100704
   (.call f_spec_l10Of [a (mul (c 2) (v I 100256)), a (v (L (L I)) 100704)] 100768
    (.ret [a (v I 100768), a (v (L V3) 100769), a (v I 100770)]))))
def tr_spec_l8Var : Tr := .ite (lt (v I 2) (c 2))
 (.ret [a (v I 0)])
 (.guard (le (c 0) (sub (v I 2) (c 2)))
  (.guard (lt (sub (v I 2) (c 2)) (ln (v (L V3) 1)))
   (.ret [a (f (ix (v (L V3) 1) (sub (v I 2) (c 2))))])))
def tr_spec_l8Fork : Tr := .call f_spec_l1In [a (v I 2), a (c 0), a (sub (v I 0) (c 1))] 100512
 (.ite (nt (v B 100512))
  (.ret [a (k false)])
  (.call f_spec_l1In [a (v I 3), a (c 0), a (v I 5)] 100896
   (.ite (nt (v B 100896))
    (.ret [a (k false)])
    (.call f_spec_l1In [a (v I 4), a (c 0), a (v I 5)] 101344
     (.ite (nt (v B 101344))
      (.ret [a (k false)])
      (.call f_spec_l8Var [a (v I 0), a (v (L V3) 1), a (v I 3)] 101856
       (.ite (gt (v I 101856) (v I 2))
        (.call f_spec_l8Var [a (v I 0), a (v (L V3) 1), a (v I 4)] 102368
         (.ret [a (gt (v I 102368) (v I 2))]))
        (.ret [a (k false)]))))))))
def tr_spec_DiagramValid : Tr := .call f_spec_l1In [a (v I 0), a (c 0), a (c 12)] 100256
 (.ite (nt (v B 100256))
  (.ret [a (k false)])
  (.ite (gt (ln (v (L V3) 1)) (c 2000))
   (.ret [a (k false)])
   (.loop [a (c 0), a (v I 0), a (v (L V3) 1)]
    (.ite (lt (v I 0) (ln (v (L V3) 2)))
     (.guard (le (c 0) (v I 0))
      (.guard (lt (v I 0) (ln (v (L V3) 2)))
       (.call f_spec_l8Fork [a (v I 1), a (v (L V3) 2), a (f (ix (v (L V3) 2) (v I 0))), a (f (s (ix (v (L V3) 2) (v I 0)))), a (s (s (ix (v (L V3) 2) (v I 0)))), a (add (v I 0) (c 1))] 1028
        (.ite (nt (v B 1028))
         (.ret [a (k false)])
         (.ite (eq (f (s (ix (v (L V3) 2) (v I 0)))) (s (s (ix (v (L V3) 2) (v I 0)))))
          (.ret [a (k false)])
          (.loop [a (v I 0), a (c 0), a (v I 1), a (v (L V3) 2), a (f (ix (v (L V3) 2) (v I 0))), a (f (s (ix (v (L V3) 2) (v I 0)))), a (s (s (ix (v (L V3) 2) (v I 0))))]
           (.ite (lt (v I 1) (v I 0))
            (.guard (le (c 0) (v I 1))
             (.guard (lt (v I 1) (ln (v (L V3) 3)))
              (.ite (.o2 .and (eq (f (ix (v (L V3) 3) (v I 1))) (v I 4)) (.o2 .and (eq (f (s (ix (v (L V3) 3) (v I 1)))) (v I 5)) (eq (s (s (ix (v (L V3) 3) (v I 1)))) (v I 6))))
               (.ret [a (k false)])
               (.jump 0 [a (v I 0), a (add (v I 1) (c 1)), a (v I 2), a (v (L V3) 3), a (v I 4), a (v I 5), a (v I 6)]))))
            (.jump 1 [a (add (v I 0) (c 1)), a (v I 2), a (v (L V3) 3)]))))))))
     (.ret [a (k true)])))))
def tr_spec_l8Place : Tr := .call f_spec_l1In [a (v I 2), a (c 0), a (add (ln (v (L V3) 1)) (c 1))] 100448
 (.ret [a (v B 100448)])
def tr_spec_l8Count : Tr := .ite (lt (v I 2) (c 2))
 (.guard (le (c 0) (sub (v I 0) (v I 3)))
  (.ret [a (.o2 (.sh true .i64 .i64) (v I 2) (sub (v I 0) (v I 3)))]))
 (.guard (le (c 0) (sub (v I 2) (c 2)))
  (.guard (lt (sub (v I 2) (c 2)) (ln (v (L V3) 1)))
   (.call f_spec_l8Count [a (v I 0), a (v (L V3) 1), a (f (s (ix (v (L V3) 1) (sub (v I 2) (c 2))))), a (add (f (ix (v (L V3) 1) (sub (v I 2) (c 2)))) (c 1))] 101792
    (.call f_spec_l8Count [a (v I 0), a (v (L V3) 1), a (s (s (ix (v (L V3) 1) (sub (v I 2) (c 2))))), a (add (f (ix (v (L V3) 1) (sub (v I 2) (c 2)))) (c 1))] 101856
     (.guard (le (c 0) (sub (f (ix (v (L V3) 1) (sub (v I 2) (c 2)))) (v I 3)))
      (.ret [a (.o2 (.sh true .i64 .i64) (add (v I 101792) (v I 101856)) (sub (f (ix (v (L V3) 1) (sub (v I 2) (c 2)))) (v I 3)))]))))))
def tr_spec_DiagramCount : Tr := .call f_spec_DiagramValid [a (v I 0), a (v (L V3) 1)] 100192
 (.ite (nt (v B 100192))
  (.ret [a (c (-1))])
  (.call f_spec_l8Place [a (v I 0), a (v (L V3) 1), a (v I 2)] 100512
   (.ite (nt (v B 100512))
    (.ret [a (c (-1))])
    (.call f_spec_l8Count [a (v I 0), a (v (L V3) 1), a (v I 2), a (c 0)] 100832
     (.ret [a (v I 100832)])))))
end Go.Proofs.YtboikipchhgdlaaGreat
namespace Go.Proofs.YtboikipchhgdlaaGreat
open Go Go.Sm Go.Sm.Q
def tr_spec_StepsCount : Tr := .call f_spec_StepDiagram [a (v (L V3) 0), a (v (L TR) 1)] 100192
 (.call f_spec_DiagramCount [a (v I 100192), a (v (L V3) 100193), a (v I 100194)] 100768
  (.ret [a (v I 100768)]))
def tr_impl_in : Tr := .ite (ge (v I 0) (v I 1))
 (.ret [a (le (v I 0) (v I 2))])
 (.ret [a (k false)])
def tr_impl_varOk : Tr := .call f_impl_in [a (v I 0), a (c (-9999)), a (c 9999)] 100256
 (.ite (v B 100256)
  (.call f_impl_in [a (v I 1), a (v I 0), a (c 9999)] 100640
   (.ite (v B 100640)
    (.ite (lt (sub (v I 1) (v I 0)) (c 20))
     (.call f_impl_in [a (v I 2), a (v I 0), a (v I 1)] 101728
      (.ret [a (v B 101728)]))
     (.ret [a (k false)]))
    (.ret [a (k false)])))
  (.ret [a (k false)]))
def tr_impl_size : Tr := .loop [a (c 1), a (v (L V3) 0), a (ln (v (L V3) 0)), a (c 0)]
 (.ite (lt (v I 3) (v I 2))
  (.guard (le (c 0) (v I 3))
   (.guard (lt (v I 3) (ln (v (L V3) 1)))
    (.jump 0 [a (mul (v I 0) (add (sub (f (s (ix (v (L V3) 1) (v I 3)))) (f (ix (v (L V3) 1) (v I 3)))) (c 1))), a (v (L V3) 1), a (v I 2), a (add (v I 3) (c 1))])))
  (.ret [a (v I 0)]))
def tr_impl_parts : Tr := .ite (eq (v I 0) (c 2))
 (.ret [a (c 2), a (c 1), a (c 1)])
 (.ite (eq (v I 0) (c 3))
  (.ret [a (c 2), a (c 1), a (c 1)])
  (.ite (eq (v I 0) (c 4))
   (.ret [a (c 2), a (c 1), a (c 1)])
   (.ite (eq (v I 0) (c 5))
    (.ret [a (c 2), a (c 1), a (c 2)])
    (.ite (eq (v I 0) (c 6))
     (.ret [a (c 2), a (c 1), a (c 2)])
     (.ite (eq (v I 0) (c 7))
      (.ret [a (c 1), a (c 2), a (c 2)])
      (.ite (eq (v I 0) (c 8))
       (.ret [a (c 2), a (c 2), a (c 2)])
       (.ite (eq (v I 0) (c 9))
        (.ret [a (c 2), a (c 2), a (c 2)])
        (.ret [a (c 0), a (c 0), a (c 1)]))))))))
def tr_impl_kindsOf : Tr := .call f_impl_in [a (v I 1), a (c 0), a (c 5)] 100128
 (.ite (nt (v B 100128))
  (.ret [a (.nil true I)])
  (.call f_impl_in [a (ln (v (L T4) 0)), a (c 1), a (c 40)] 100448
   (.ite (nt (v B 100448))
    (.ret [a (.nil true I)])
    (.guard (le (c 0) (ln (v (L T4) 0)))
     (.guard (le (ln (v (L T4) 0)) (c 549755813888))
      (.loop [a (v I 1), a (v (L T4) 0), a (ln (v (L T4) 0)), a (c 0), a (rep (c 0) (z I))]
       (.ite (lt (v I 3) (v I 2))
        (.guard (le (c 0) (v I 3))
         (.guard (lt (v I 3) (ln (v (L T4) 1)))
          (.call f_impl_parts [a (f (ix (v (L T4) 1) (v I 3)))] 582
           (.call f_impl_in [a (f (ix (v (L T4) 1) (v I 3))), a (c 0), a (c 9)] 1222
            (.join
             (.ite (eq (f (ix (v (L T4) 1) (v I 3))) (c 0))
              (.call f_impl_in [a (f (s (ix (v (L T4) 1) (v I 3)))), a (c (-9999)), a (c 9999)] 1734
               (.ite (v B 1734)
                (.ite (eq (f (s (s (ix (v (L T4) 1) (v I 3))))) (c 0))
                 (.jump 0 [a (v I 0), a (v I 584), a (eq (s (s (s (ix (v (L T4) 1) (v I 3))))) (c 0)), a (v (L T4) 1), a (v I 2), a (v I 3), a (v (L I) 4)])
                 (.jump 0 [a (v I 0), a (v I 584), a (k false), a (v (L T4) 1), a (v I 2), a (v I 3), a (v (L I) 4)]))
                (.jump 0 [a (v I 0), a (v I 584), a (k false), a (v (L T4) 1), a (v I 2), a (v I 3), a (v (L I) 4)])))
              (.ite (eq (f (ix (v (L T4) 1) (v I 3))) (c 1))
               (.call f_impl_in [a (f (s (ix (v (L T4) 1) (v I 3)))), a (c 0), a (sub (v I 0) (c 1))] 2118
                (.ite (v B 2118)
                 (.ite (eq (f (s (s (ix (v (L T4) 1) (v I 3))))) (c 0))
                  (.jump 0 [a (v I 0), a (v I 584), a (eq (s (s (s (ix (v (L T4) 1) (v I 3))))) (c 0)), a (v (L T4) 1), a (v I 2), a (v I 3), a (v (L I) 4)])
                  (.jump 0 [a (v I 0), a (v I 584), a (k false), a (v (L T4) 1), a (v I 2), a (v I 3), a (v (L I) 4)]))
                 (.jump 0 [a (v I 0), a (v I 584), a (k false), a (v (L T4) 1), a (v I 2), a (v I 3), a (v (L I) 4)])))
               (.ite (v B 1222)
                (.ite (eq (f (s (ix (v (L T4) 1) (v I 3)))) (c 0))
                 (.call f_impl_in [a (f (s (s (ix (v (L T4) 1) (v I 3))))), a (c 0), a (sub (v I 3) (c 1))] 2502
                  (.ite (v B 2502)
                   (.call f_impl_in [a (s (s (s (ix (v (L T4) 1) (v I 3))))), a (c 0), a (sub (v I 3) (c 1))] 2950
                    (.ite (v B 2950)
                     (.guard (le (c 0) (f (s (s (ix (v (L T4) 1) (v I 3))))))
                      (.guard (lt (f (s (s (ix (v (L T4) 1) (v I 3))))) (ln (v (L I) 4)))
                       (.ite (eq (ix (v (L I) 4) (f (s (s (ix (v (L T4) 1) (v I 3)))))) (v I 583))
                        (.guard (le (c 0) (s (s (s (ix (v (L T4) 1) (v I 3))))))
                         (.guard (lt (s (s (s (ix (v (L T4) 1) (v I 3))))) (ln (v (L I) 4)))
                          (.ite (eq (ix (v (L I) 4) (s (s (s (ix (v (L T4) 1) (v I 3)))))) (v I 583))
                           (.ite (eq (v I 582) (c 2))
                            (.jump 0 [a (v I 0), a (v I 584), a (k true), a (v (L T4) 1), a (v I 2), a (v I 3), a (v (L I) 4)])
                            (.jump 0 [a (v I 0), a (v I 584), a (eq (f (s (s (ix (v (L T4) 1) (v I 3))))) (s (s (s (ix (v (L T4) 1) (v I 3)))))), a (v (L T4) 1), a (v I 2), a (v I 3), a (v (L I) 4)]))
                           (.jump 0 [a (v I 0), a (v I 584), a (k false), a (v (L T4) 1), a (v I 2), a (v I 3), a (v (L I) 4)]))))
                        (.jump 0 [a (v I 0), a (v I 584), a (k false), a (v (L T4) 1), a (v I 2), a (v I 3), a (v (L I) 4)]))))
                     (.jump 0 [a (v I 0), a (v I 584), a (k false), a (v (L T4) 1), a (v I 2), a (v I 3), a (v (L I) 4)])))
                   (.jump 0 [a (v I 0), a (v I 584), a (k false), a (v (L T4) 1), a (v I 2), a (v I 3), a (v (L I) 4)])))
                 (.jump 0 [a (v I 0), a (v I 584), a (k false), a (v (L T4) 1), a (v I 2), a (v I 3), a (v (L I) 4)]))
                (.jump 0 [a (v I 0), a (v I 584), a (k false), a (v (L T4) 1), a (v I 2), a (v I 3), a (v (L I) 4)]))))
             (.ite (nt (v B 2))
              (.ret [a (.nil true I)])
              (.guard (le (ln (v (L I) 6)) (c 549755813888))
               (.guard (le (ln (one (v I 1))) (c 549755813888))
                (.jump 0 [a (v I 0), a (v (L T4) 3), a (v I 4), a (add (v I 5) (c 1)), a (app (v (L I) 6) (one (v I 1)))])))))))))
        (.guard (nt (emp (v (L I) 4)))
         (.ret [a (re true (v (L I) 4))])))))))))
def tr_impl_kindOf : Tr := .call f_impl_kindsOf [a (v (L T4) 0), a (v I 1)] 100192
 (.ite (emp (v (N I) 100192))
  (.ret [a (c 0)])
  (.guard (le (c 0) (sub (lm (v (N I) 100192)) (c 1)))
   (.guard (lt (sub (lm (v (N I) 100192)) (c 1)) (lm (v (N I) 100192)))
    (.ret [a (im (v (N I) 100192) (sub (lm (v (N I) 100192)) (c 1)))]))))
def tr_impl_ruleOk : Tr := .call f_impl_kindOf [a (v (L T4) 0), a (v I 3)] 100320
 (.ite (ne (v I 100320) (c 2))
  (.ret [a (k false)])
  (.ite (ne (ln (v (L I) 1)) (ln (v (L (L T4)) 2)))
   (.ret [a (k false)])
   (.loop [a (v I 3), a (v (L I) 1), a (ln (v (L I) 1)), a (c 0), a (v (L T4) 0), a (v (L I) 1), a (v (L (L T4)) 2)]
    (.ite (lt (v I 3) (v I 2))
     (.join
      (.guard (le (c 0) (v I 3))
       (.guard (lt (v I 3) (ln (v (L I) 1)))
        (.call f_impl_in [a (ix (v (L I) 1) (v I 3)), a (c 0), a (sub (v I 0) (c 1))] 584
         (.ite (nt (v B 584))
          (.ret [a (k false)])
          (.ite (gt (v I 3) (c 0))
           (.guard (le (c 0) (sub (v I 3) (c 1)))
            (.guard (lt (sub (v I 3) (c 1)) (ln (v (L I) 5)))
             (.ite (ge (ix (v (L I) 5) (sub (v I 3) (c 1))) (ix (v (L I) 1) (v I 3)))
              (.ret [a (k false)])
              (.guard (le (c 0) (v I 3))
               (.guard (lt (v I 3) (ln (v (L (L T4)) 6)))
                (.call f_impl_kindOf [a (ix (v (L (L T4)) 6) (v I 3)), a (v I 0)] 2056
                 (.ite (ne (v I 2056) (c 1))
                  (.ret [a (k false)])
                  (.jump 0 [a (v I 0), a (v (L I) 1), a (v I 2), a (v I 3), a (v (L T4) 4), a (v (L I) 5), a (v (L (L T4)) 6)]))))))))
           (.guard (le (c 0) (v I 3))
            (.guard (lt (v I 3) (ln (v (L (L T4)) 6)))
             (.call f_impl_kindOf [a (ix (v (L (L T4)) 6) (v I 3)), a (v I 0)] 2056
              (.ite (ne (v I 2056) (c 1))
               (.ret [a (k false)])
               (.jump 0 [a (v I 0), a (v (L I) 1), a (v I 2), a (v I 3), a (v (L T4) 4), a (v (L I) 5), a (v (L (L T4)) 6)]))))))))))
      (.jump 0 [a (v I 0), a (v (L I) 1), a (v I 2), a (add (v I 3) (c 1)), a (v (L T4) 4), a (v (L I) 5), a (v (L (L T4)) 6)]))
     (.ret [a (k true)])))))
def tr_impl_SystemValid : Tr := .join
 (.call f_impl_in [a (ln (v (L V3) 0)), a (c 1), a (c 5)] 100320
  (.ite (nt (v B 100320))
   (.ret [a (k false)])
   (.ite (gt (ln (v (L TR) 1)) (c 8))
    (.ret [a (k false)])
    (.loop [a (v (L V3) 0), a (ln (v (L V3) 0)), a (c 0), a (v (L V3) 0), a (v (L TR) 1)]
     (.ite (lt (v I 2) (v I 1))
      (.guard (le (c 0) (v I 2))
       (.guard (lt (v I 2) (ln (v (L V3) 0)))
        (.call f_impl_varOk [a (f (ix (v (L V3) 0) (v I 2))), a (f (s (ix (v (L V3) 0) (v I 2)))), a (s (s (ix (v (L V3) 0) (v I 2))))] 774
         (.ite (nt (v B 774))
          (.ite (ge (v I 2) (c 0))
           (.ret [a (k false)])
           (.call f_impl_size [a (v (L V3) 3)] 3014
            (.ite (gt (v I 3014) (c 400))
             (.ret [a (k false)])
             (.jump 1 [a (v (L V3) 3), a (v (L TR) 4)]))))
          (.jump 0 [a (v (L V3) 0), a (v I 1), a (add (v I 2) (c 1)), a (v (L V3) 3), a (v (L TR) 4)])))))
      (.call f_impl_size [a (v (L V3) 3)] 1670
       (.ite (gt (v I 1670) (c 400))
        (.ret [a (k false)])
        (.jump 1 [a (v (L V3) 3), a (v (L TR) 4)]))))))))
 (.loop [a (v (L TR) 1), a (ln (v (L TR) 1)), a (c 0), a (v (L V3) 0), a (v (L TR) 1)]
  (.ite (lt (v I 2) (v I 1))
   (.guard (le (c 0) (v I 2))
    (.guard (lt (v I 2) (ln (v (L TR) 0)))
     (.call f_impl_ruleOk [a (f (ix (v (L TR) 0) (v I 2))), a (f (s (ix (v (L TR) 0) (v I 2)))), a (s (s (ix (v (L TR) 0) (v I 2)))), a (ln (v (L V3) 3))] 966
      (.ite (nt (v B 966))
       (.ret [a (nt (ge (v I 2) (c 0)))])
       (.jump 0 [a (v (L TR) 0), a (v I 1), a (add (v I 2) (c 1)), a (v (L V3) 3), a (v (L TR) 4)])))))
   (.ret [a (nt (ge (c (-1)) (c 0)))])))
def tr_impl_bitsFor : Tr := .loop [a (v I 0), a (c 0)]
 (.guard (le (c 0) (v I 1))
  (.ite (lt (.o2 (.sh true .i64 .i64) (c 1) (v I 1)) (v I 0))
   (.jump 0 [a (v I 0), a (add (v I 1) (c 1))])
   (.ret [a (v I 1)])))
def tr_impl_clone_int : Tr := .ite (eq (ln (v (L I) 0)) (c 0))
 (.ret [a (nl I)])
 (.guard (le (c 0) (ln (v (L I) 0)))
  (.guard (le (ln (v (L I) 0)) (c 549755813888))
   (.ret [a (over (rep (ln (v (L I) 0)) (z I)) (v (L I) 0))])))
def tr_impl_bitsOf : Tr := .loop [a (v (L V3) 0), a (ln (v (L V3) 0)), a (c 0), a (nl I)]
 (.ite (lt (v I 2) (v I 1))
  (.guard (le (c 0) (v I 2))
   (.guard (lt (v I 2) (ln (v (L V3) 0)))
    (.call f_impl_bitsFor [a (add (sub (f (s (ix (v (L V3) 0) (v I 2)))) (f (ix (v (L V3) 0) (v I 2)))) (c 1))] 773
     (.guard (le (ln (v (L I) 3)) (c 549755813888))
      (.guard (le (ln (one (v I 773))) (c 549755813888))
       (.jump 0 [a (v (L V3) 0), a (v I 1), a (add (v I 2) (c 1)), a (app (v (L I) 3) (one (v I 773)))]))))))
  (.call f_impl_clone_int [a (v (L I) 3)] 133
   (.ret [a (v (L I) 133)])))
def tr_impl_bitCount : Tr := .call f_impl_bitsOf [a (v (L V3) 0), a (v (L TR) 1)] 100256
 (.loop [a (c 0), a (ln (v (L I) 100256)), a (c 0), a (v (L I) 100256)]
  (.ite (lt (v I 2) (v I 1))
   (.guard (le (c 0) (v I 2))
    (.guard (lt (v I 2) (ln (v (L I) 3)))
     (.jump 0 [a (add (v I 0) (ix (v (L I) 3) (v I 2))), a (v I 1), a (add (v I 2) (c 1)), a (v (L I) 3)])))
   (.ret [a (v I 0)])))
def tr_impl_halfNarrow : Tr := .call f_impl_SystemValid [a (v (L V3) 0), a (v (L TR) 1)] 100192
 (.ite (v B 100192)
  (.call f_impl_bitCount [a (v (L V3) 0), a (v (L TR) 1)] 100384
   (.ret [a (le (mul (c 2) (v I 100384)) (c 12))]))
  (.ret [a (k false)]))
def tr_impl_stateAt : Tr := .guard (le (c 0) (ln (v (L V3) 0)))
 (.guard (le (ln (v (L V3) 0)) (c 549755813888))
  (.loop [a (v I 2), a (sub (ln (rep (ln (v (L V3) 0)) (z I))) (c 1)), a (v (L V3) 0), a (v (L TR) 1), a (rep (ln (v (L V3) 0)) (z I))]
   (.ite (ge (v I 1) (c 0))
    (.guard (le (c 0) (v I 1))
     (.guard (lt (v I 1) (ln (v (L V3) 2)))
      (.guard (ne (add (sub (f (s (ix (v (L V3) 2) (v I 1)))) (f (ix (v (L V3) 2) (v I 1)))) (c 1)) (c 0))
       (.guard (le (c 0) (v I 1))
        (.guard (lt (v I 1) (ln (v (L I) 4)))
         (.guard (ne (add (sub (f (s (ix (v (L V3) 2) (v I 1)))) (f (ix (v (L V3) 2) (v I 1)))) (c 1)) (c 0))
          (.jump 0 [a (quo (v I 0) (add (sub (f (s (ix (v (L V3) 2) (v I 1)))) (f (ix (v (L V3) 2) (v I 1)))) (c 1))), a (sub (v I 1) (c 1)), a (v (L V3) 2), a (v (L TR) 3), a (st (v (L I) 4) (v I 1) (add (f (ix (v (L V3) 2) (v I 1))) (rem (v I 0) (add (sub (f (s (ix (v (L V3) 2) (v I 1)))) (f (ix (v (L V3) 2) (v I 1)))) (c 1)))))])))))))
    (.ret [a (v (L I) 4)]))))
def tr_impl_held : Tr := .ret [a (.o2 (.mx .i64) (c (-9999)) (.o2 (.mn .i64) (c 9999) (v I 0)))]
def tr_impl_bit : Tr := .ite (v B 0)
 (.ret [a (c 1)])
 (.ret [a (c 0)])
def tr_impl_do : Tr := .ite (eq (v I 0) (c 2))
 (.call f_impl_held [a (add (v I 1) (v I 2))] 100448
  (.ret [a (v I 100448)]))
 (.ite (eq (v I 0) (c 3))
  (.call f_impl_held [a (sub (v I 1) (v I 2))] 100576
   (.ret [a (v I 100576)]))
  (.ite (eq (v I 0) (c 4))
   (.call f_impl_held [a (mul (v I 1) (v I 2))] 100704
    (.ret [a (v I 100704)]))
   (.ite (eq (v I 0) (c 5))
    (.call f_impl_bit [a (lt (v I 1) (v I 2))] 100832
     (.ret [a (v I 100832)]))
    (.ite (eq (v I 0) (c 6))
     (.call f_impl_bit [a (eq (v I 1) (v I 2))] 100960
      (.ret [a (v I 100960)]))
     (.ite (eq (v I 0) (c 7))
      (.ret [a (sub (c 1) (v I 1))])
      (.ite (eq (v I 0) (c 8))
       (.ret [a (.o2 (.mn .i64) (v I 1) (v I 2))])
       (.ret [a (.o2 (.mx .i64) (v I 1) (v I 2))])))))))
def tr_impl_eval : Tr := .guard (le (c 0) (ln (v (L T4) 0)))
 (.guard (le (ln (v (L T4) 0)) (c 549755813888))
  (.loop [a (v (L I) 1), a (v (L T4) 0), a (ln (v (L T4) 0)), a (c 0), a (rep (ln (v (L T4) 0)) (z I))]
   (.ite (lt (v I 3) (v I 2))
    (.join
     (.guard (le (c 0) (v I 3))
      (.guard (lt (v I 3) (ln (v (L T4) 1)))
       (.ite (eq (f (ix (v (L T4) 1) (v I 3))) (c 0))
        (.guard (le (c 0) (v I 3))
         (.guard (lt (v I 3) (ln (v (L I) 4)))
          (.jump 0 [a (v (L I) 0), a (v (L T4) 1), a (v I 2), a (v I 3), a (st (v (L I) 4) (v I 3) (f (s (ix (v (L T4) 1) (v I 3)))))])))
        (.ite (eq (f (ix (v (L T4) 1) (v I 3))) (c 1))
         (.guard (le (c 0) (f (s (ix (v (L T4) 1) (v I 3)))))
          (.guard (lt (f (s (ix (v (L T4) 1) (v I 3)))) (ln (v (L I) 0)))
           (.guard (le (c 0) (v I 3))
            (.guard (lt (v I 3) (ln (v (L I) 4)))
             (.jump 0 [a (v (L I) 0), a (v (L T4) 1), a (v I 2), a (v I 3), a (st (v (L I) 4) (v I 3) (ix (v (L I) 0) (f (s (ix (v (L T4) 1) (v I 3))))))])))))
         (.guard (le (c 0) (f (s (s (ix (v (L T4) 1) (v I 3))))))
          (.guard (lt (f (s (s (ix (v (L T4) 1) (v I 3))))) (ln (v (L I) 4)))
           (.guard (le (c 0) (s (s (s (ix (v (L T4) 1) (v I 3))))))
            (.guard (lt (s (s (s (ix (v (L T4) 1) (v I 3))))) (ln (v (L I) 4)))
             (.call f_impl_do [a (f (ix (v (L T4) 1) (v I 3))), a (ix (v (L I) 4) (f (s (s (ix (v (L T4) 1) (v I 3)))))), a (ix (v (L I) 4) (s (s (s (ix (v (L T4) 1) (v I 3))))))] 1734
              (.guard (le (c 0) (v I 3))
               (.guard (lt (v I 3) (ln (v (L I) 4)))
                (.jump 0 [a (v (L I) 0), a (v (L T4) 1), a (v I 2), a (v I 3), a (st (v (L I) 4) (v I 3) (v I 1734))]))))))))))))
     (.jump 0 [a (v (L I) 0), a (v (L T4) 1), a (v I 2), a (add (v I 3) (c 1)), a (v (L I) 4)]))
    (.guard (le (c 0) (sub (ln (v (L I) 4)) (c 1)))
     (.guard (lt (sub (ln (v (L I) 4)) (c 1)) (ln (v (L I) 4)))
      (.ret [a (ix (v (L I) 4) (sub (ln (v (L I) 4)) (c 1)))]))))))
def tr_impl_inRange : Tr := .ite (ne (ln (v (L I) 2)) (ln (v (L V3) 0)))
 (.ret [a (k false)])
 (.loop [a (v (L I) 2), a (v (L V3) 0), a (ln (v (L V3) 0)), a (c 0)]
  (.ite (lt (v I 3) (v I 2))
   (.guard (le (c 0) (v I 3))
    (.guard (lt (v I 3) (ln (v (L V3) 1)))
     (.guard (le (c 0) (v I 3))
      (.guard (lt (v I 3) (ln (v (L I) 0)))
       (.call f_impl_in [a (ix (v (L I) 0) (v I 3)), a (f (ix (v (L V3) 1) (v I 3))), a (f (s (ix (v (L V3) 1) (v I 3))))] 964
        (.ite (nt (v B 964))
         (.ret [a (k false)])
         (.jump 0 [a (v (L I) 0), a (v (L V3) 1), a (v I 2), a (add (v I 3) (c 1))])))))))
   (.ret [a (k true)])))
def tr_impl_use : Tr := .guard (le (c 0) (v I 3))
 (.guard (lt (v I 3) (ln (v (L TR) 1)))
  (.call f_impl_eval [a (f (ix (v (L TR) 1) (v I 3))), a (v (L I) 2)] 100832
   (.ite (eq (v I 100832) (c 0))
    (.ret [a (nl I), a (k false)])
    (.call f_impl_clone_int [a (v (L I) 2)] 101024
     (.loop [a (v (L I) 2), a (f (s (ix (v (L TR) 1) (v I 3)))), a (ln (f (s (ix (v (L TR) 1) (v I 3))))), a (c 0), a (v (L V3) 0), a (v (L TR) 1), a (f (ix (v (L TR) 1) (v I 3))), a (f (s (ix (v (L TR) 1) (v I 3)))), a (s (s (ix (v (L TR) 1) (v I 3)))), a (v (L I) 101024)]
      (.ite (lt (v I 3) (v I 2))
       (.guard (le (c 0) (v I 3))
        (.guard (lt (v I 3) (ln (v (L I) 1)))
         (.guard (le (c 0) (v I 3))
          (.guard (lt (v I 3) (ln (v (L (L T4)) 8)))
           (.call f_impl_eval [a (ix (v (L (L T4)) 8) (v I 3)), a (v (L I) 0)] 909
            (.guard (le (c 0) (ix (v (L I) 1) (v I 3)))
             (.guard (lt (ix (v (L I) 1) (v I 3)) (ln (v (L I) 9)))
              (.jump 0 [a (v (L I) 0), a (v (L I) 1), a (v I 2), a (add (v I 3) (c 1)), a (v (L V3) 4), a (v (L TR) 5), a (v (L T4) 6), a (v (L I) 7), a (v (L (L T4)) 8), a (st (v (L I) 9) (ix (v (L I) 1) (v I 3)) (v I 909))]))))))))
       (.call f_impl_inRange [a (v (L V3) 4), a (v (L TR) 5), a (v (L I) 9)] 205
        (.ite (nt (v B 205))
         (.ret [a (nl I), a (k false)])
         (.ret [a (v (L I) 9), a (k true)])))))))))
def tr_cmp_isNaN_int : Tr := .ret [a (ne (v I 0) (v I 0))]
def tr_cmp_Compare_int : Tr := .call f_cmp_isNaN_int [a (v I 0)] 100128
 (.call f_cmp_isNaN_int [a (v I 1)] 100320
  (.ite (v B 100128)
   (.ite (v B 100320)
    (.ret [a (c 0)])
    (.ret [a (c (-1))]))
   (.ite (v B 100320)
    (.ret [a (c 1)])
    (.ite (lt (v I 0) (v I 1))
     (.ret [a (c (-1))])
     (.ite (gt (v I 0) (v I 1))
      (.ret [a (c 1)])
      (.ret [a (c 0)]))))))
def tr_slices_Compare_Sint_int : Tr := .loop [a (v (L I) 0), a (v (L I) 1), a (v (L I) 0), a (ln (v (L I) 0)), a (c 0)]
 (.ite (lt (v I 4) (v I 3))
  (.guard (le (c 0) (v I 4))
   (.guard (lt (v I 4) (ln (v (L I) 2)))
    (.ite (ge (v I 4) (ln (v (L I) 1)))
     (.ret [a (c 1)])
     (.guard (le (c 0) (v I 4))
      (.guard (lt (v I 4) (ln (v (L I) 1)))
       (.call f_cmp_Compare_int [a (ix (v (L I) 2) (v I 4)), a (ix (v (L I) 1) (v I 4))] 1093
        (.ite (ne (v I 1093) (c 0))
         (.ret [a (v I 1093)])
         (.jump 0 [a (v (L I) 0), a (v (L I) 1), a (v (L I) 2), a (v I 3), a (add (v I 4) (c 1))]))))))))
  (.ite (lt (ln (v (L I) 0)) (ln (v (L I) 1)))
   (.ret [a (c (-1))])
   (.ret [a (c 0)])))
def tr_slices_Reverse_SSint_Sint : Tr := .loop [a (c 0), a (sub (ln (v (L (L I)) 0)) (c 1)), a (v (L (L I)) 0)]
 (.ite (lt (v I 0) (v I 1))
  (.guard (le (c 0) (v I 1))
   (.guard (lt (v I 1) (ln (v (L (L I)) 2)))
    (.guard (le (c 0) (v I 0))
     (.guard (lt (v I 0) (ln (v (L (L I)) 2)))
      (.guard (le (c 0) (v I 0))
       (.guard (lt (v I 0) (ln (v (L (L I)) 2)))
        (.guard (le (c 0) (v I 1))
         (.guard (lt (v I 1) (ln (st (v (L (L I)) 2) (v I 0) (ix (v (L (L I)) 2) (v I 1)))))
          (.jump 0 [a (add (v I 0) (c 1)), a (sub (v I 1) (c 1)), a (st (st (v (L (L I)) 2) (v I 0) (ix (v (L (L I)) 2) (v I 1))) (v I 1) (ix (v (L (L I)) 2) (v I 0)))])))))))))
  (.ret []))
def tr_impl_clone_Sint : Tr := .ite (eq (ln (v (L (L I)) 0)) (c 0))
 (.ret [a (nl (L I))])
 (.guard (le (c 0) (ln (v (L (L I)) 0)))
  (.guard (le (ln (v (L (L I)) 0)) (c 549755813888))
   (.ret [a (over (rep (ln (v (L (L I)) 0)) (z (L I))) (v (L (L I)) 0))])))
def tr_impl_nextStates : Tr := .loop [a (v (L I) 2), a (ln (v (L TR) 1)), a (c 0), a (v (L V3) 0), a (v (L TR) 1), a (nl (L I))]
 (.ite (lt (v I 2) (v I 1))
  (.join
   (.call f_impl_use [a (v (L V3) 3), a (v (L TR) 4), a (v (L I) 0), a (v I 2)] 392
    (.ite (v B 393)
     (.join
      (.loop [a (ln (v (L (L I)) 5)), a (c 0), a (ln (v (L (L I)) 5)), a (v (L I) 0), a (v I 1), a (v I 2), a (v (L (L I)) 5), a (v (L I) 392), a (v (L V3) 3), a (v (L TR) 4)]
       (.ite (lt (v I 1) (v I 2))
        (.guard (le (c 0) (.o1 (.conv .u64 .i64) (.o2 (.sh false .u64 .u64) (.o1 (.conv .i64 .u64) (add (v I 1) (v I 2))) (.int .u64 1))))
         (.guard (lt (.o1 (.conv .u64 .i64) (.o2 (.sh false .u64 .u64) (.o1 (.conv .i64 .u64) (add (v I 1) (v I 2))) (.int .u64 1))) (ln (v (L (L I)) 6)))
          (.call f_slices_Compare_Sint_int [a (ix (v (L (L I)) 6) (.o1 (.conv .u64 .i64) (.o2 (.sh false .u64 .u64) (.o1 (.conv .i64 .u64) (add (v I 1) (v I 2))) (.int .u64 1)))), a (v (L I) 7)] 1037
           (.ite (lt (v I 1037) (c 0))
            (.jump 0 [a (v I 0), a (add (.o1 (.conv .u64 .i64) (.o2 (.sh false .u64 .u64) (.o1 (.conv .i64 .u64) (add (v I 1) (v I 2))) (.int .u64 1))) (c 1)), a (v I 2), a (v (L I) 3), a (v I 4), a (v I 5), a (v (L (L I)) 6), a (v (L I) 7), a (v (L V3) 8), a (v (L TR) 9)])
            (.jump 0 [a (v I 0), a (v I 1), a (.o1 (.conv .u64 .i64) (.o2 (.sh false .u64 .u64) (.o1 (.conv .i64 .u64) (add (v I 1) (v I 2))) (.int .u64 1))), a (v (L I) 3), a (v I 4), a (v I 5), a (v (L (L I)) 6), a (v (L I) 7), a (v (L V3) 8), a (v (L TR) 9)])))))
        (.ite (lt (v I 1) (v I 0))
         (.guard (le (c 0) (v I 1))
          (.guard (lt (v I 1) (ln (v (L (L I)) 6)))
           (.call f_slices_Compare_Sint_int [a (ix (v (L (L I)) 6) (v I 1)), a (v (L I) 7)] 909
            (.jump 1 [a (v (L I) 3), a (v I 1), a (eq (v I 909) (c 0)), a (v I 4), a (v I 5), a (v (L V3) 8), a (v (L TR) 9), a (v (L (L I)) 6), a (v (L I) 7)]))))
         (.jump 1 [a (v (L I) 3), a (v I 1), a (k false), a (v I 4), a (v I 5), a (v (L V3) 8), a (v (L TR) 9), a (v (L (L I)) 6), a (v (L I) 7)]))))
      (.ite (nt (v B 2))
       (.guard (le (c 0) (v I 1))
        (.guard (le (v I 1) (ln (v (L (L I)) 7)))
         (.guard (le (ln (v (L (L I)) 7)) (c 549755813888))
          (.guard (eq (ln (one (v (L I) 8))) (c 1))
           (.jump 0 [a (v (L I) 0), a (v I 3), a (v I 4), a (v (L V3) 5), a (v (L TR) 6), a (app (app (take (v (L (L I)) 7) (v I 1)) (one (v (L I) 8))) (drop (v (L (L I)) 7) (v I 1)))])))))
       (.jump 0 [a (v (L I) 0), a (v I 3), a (v I 4), a (v (L V3) 5), a (v (L TR) 6), a (v (L (L I)) 7)])))
     (.jump 0 [a (v (L I) 0), a (v I 1), a (v I 2), a (v (L V3) 3), a (v (L TR) 4), a (v (L (L I)) 5)])))
   (.jump 0 [a (v (L I) 0), a (v I 1), a (add (v I 2) (c 1)), a (v (L V3) 3), a (v (L TR) 4), a (v (L (L I)) 5)]))
  (.call f_impl_clone_Sint [a (v (L (L I)) 5)] 136
   (.ret [a (v (L (L I)) 136)])))
def tr_impl_number : Tr := .loop [a (v (L I) 2), a (c 0), a (v (L V3) 0), a (ln (v (L V3) 0)), a (c 0)]
 (.ite (lt (v I 4) (v I 3))
  (.guard (le (c 0) (v I 4))
   (.guard (lt (v I 4) (ln (v (L V3) 2)))
    (.guard (le (c 0) (v I 4))
     (.guard (lt (v I 4) (ln (v (L I) 0)))
      (.jump 0 [a (v (L I) 0), a (sub (add (mul (v I 1) (add (sub (f (s (ix (v (L V3) 2) (v I 4)))) (f (ix (v (L V3) 2) (v I 4)))) (c 1))) (ix (v (L I) 0) (v I 4))) (f (ix (v (L V3) 2) (v I 4)))), a (v (L V3) 2), a (v I 3), a (add (v I 4) (c 1))])))))
  (.ret [a (v I 1)]))
def tr_impl_nexts : Tr := .call f_impl_size [a (v (L V3) 0)] 100256
 (.guard (le (c 0) (v I 100256))
  (.guard (le (v I 100256) (c 549755813888))
   (.loop [a (ln (rep (v I 100256) (z (L I)))), a (c 0), a (v (L V3) 0), a (v (L TR) 1), a (rep (v I 100256) (z (L I)))]
    (.ite (lt (v I 1) (v I 0))
     (.call f_impl_stateAt [a (v (L V3) 2), a (v (L TR) 3), a (v I 1)] 455
      (.call f_impl_nextStates [a (v (L V3) 2), a (v (L TR) 3), a (v (L I) 455)] 519
       (.loop [a (v I 1), a (v I 0), a (v I 1), a (ln (v (L (L I)) 519)), a (c 0), a (v (L V3) 2), a (v (L TR) 3), a (v (L (L I)) 4), a (v (L (L I)) 519)]
        (.ite (lt (v I 4) (v I 3))
         (.guard (le (c 0) (v I 4))
          (.guard (lt (v I 4) (ln (v (L (L I)) 8)))
           (.guard (le (c 0) (v I 0))
            (.guard (lt (v I 0) (ln (v (L (L I)) 7)))
             (.call f_impl_number [a (v (L V3) 5), a (v (L TR) 6), a (ix (v (L (L I)) 8) (v I 4))] 780
              (.guard (le (ln (ix (v (L (L I)) 7) (v I 0))) (c 549755813888))
               (.guard (le (ln (one (v I 780))) (c 549755813888))
                (.guard (le (c 0) (v I 0))
                 (.guard (lt (v I 0) (ln (v (L (L I)) 7)))
                  (.jump 0 [a (v I 0), a (v I 1), a (v I 2), a (v I 3), a (add (v I 4) (c 1)), a (v (L V3) 5), a (v (L TR) 6), a (st (v (L (L I)) 7) (v I 0) (app (ix (v (L (L I)) 7) (v I 0)) (one (v I 780)))), a (v (L (L I)) 8)]))))))))))
         (.jump 1 [a (v I 1), a (add (v I 2) (c 1)), a (v (L V3) 5), a (v (L TR) 6), a (v (L (L I)) 7)])))))
     (.ret [a (v (L (L I)) 4)])))))
def tr_impl_StepsCount : Tr := .call f_impl_halfNarrow [a (v (L V3) 0), a (v (L TR) 1)] 100192
 (.ite (nt (v B 100192))
  (.ret [a (c (-1))])
  (.call f_impl_nexts [a (v (L V3) 0), a (v (L TR) 1)] 100448
   (.loop [a (c 0), a (ln (v (L (L I)) 100448)), a (c 0), a (v (L (L I)) 100448)]
    (.ite (lt (v I 2) (v I 1))
     (.guard (le (c 0) (v I 2))
      (.guard (lt (v I 2) (ln (v (L (L I)) 3)))
       (.jump 0 [a (add (v I 0) (ln (ix (v (L (L I)) 3) (v I 2)))), a (v I 1), a (add (v I 2) (c 1)), a (v (L (L I)) 3)])))
     (.ret [a (v I 0)])))))
end Go.Proofs.YtboikipchhgdlaaGreat
namespace Go.Proofs.YtboikipchhgdlaaGreat
open Go Go.Sm Go.Sm.Q
def tr_laws_eqVar : Tr := .ite (ne (v I 0) (v I 3))
 (.ret [a (k false)])
 (.ite (ne (v I 1) (v I 4))
  (.ret [a (k false)])
  (.ite (ne (v I 2) (v I 5))
   (.ret [a (k false)])
   (.ret [a (k true)])))
def tr_laws_eqVarS : Tr := .ite (ne (ln (v (L V3) 0)) (ln (v (L V3) 1)))
 (.ret [a (k false)])
 (.loop [a (v (L V3) 0), a (v (L V3) 1), a (c 0)]
  (.ite (lt (v I 2) (ln (v (L V3) 0)))
   (.guard (le (c 0) (v I 2))
    (.guard (lt (v I 2) (ln (v (L V3) 0)))
     (.guard (le (c 0) (v I 2))
      (.guard (lt (v I 2) (ln (v (L V3) 1)))
       (.call f_laws_eqVar [a (f (ix (v (L V3) 0) (v I 2))), a (f (s (ix (v (L V3) 0) (v I 2)))), a (s (s (ix (v (L V3) 0) (v I 2)))), a (f (ix (v (L V3) 1) (v I 2))), a (f (s (ix (v (L V3) 1) (v I 2)))), a (s (s (ix (v (L V3) 1) (v I 2))))] 771
        (.ite (nt (v B 771))
         (.ret [a (k false)])
         (.jump 0 [a (v (L V3) 0), a (v (L V3) 1), a (add (v I 2) (c 1))])))))))
   (.ret [a (k true)])))
def tr_laws_eqTerm : Tr := .ite (ne (v I 0) (v I 4))
 (.ret [a (k false)])
 (.ite (ne (v I 1) (v I 5))
  (.ret [a (k false)])
  (.ite (ne (v I 2) (v I 6))
   (.ret [a (k false)])
   (.ite (ne (v I 3) (v I 7))
    (.ret [a (k false)])
    (.ret [a (k true)]))))
def tr_laws_eqTermS : Tr := .ite (ne (ln (v (L T4) 0)) (ln (v (L T4) 1)))
 (.ret [a (k false)])
 (.loop [a (v (L T4) 0), a (v (L T4) 1), a (c 0)]
  (.ite (lt (v I 2) (ln (v (L T4) 0)))
   (.guard (le (c 0) (v I 2))
    (.guard (lt (v I 2) (ln (v (L T4) 0)))
     (.guard (le (c 0) (v I 2))
      (.guard (lt (v I 2) (ln (v (L T4) 1)))
       (.call f_laws_eqTerm [a (f (ix (v (L T4) 0) (v I 2))), a (f (s (ix (v (L T4) 0) (v I 2)))), a (f (s (s (ix (v (L T4) 0) (v I 2))))), a (s (s (s (ix (v (L T4) 0) (v I 2))))), a (f (ix (v (L T4) 1) (v I 2))), a (f (s (ix (v (L T4) 1) (v I 2)))), a (f (s (s (ix (v (L T4) 1) (v I 2))))), a (s (s (s (ix (v (L T4) 1) (v I 2)))))] 771
        (.ite (nt (v B 771))
         (.ret [a (k false)])
         (.jump 0 [a (v (L T4) 0), a (v (L T4) 1), a (add (v I 2) (c 1))])))))))
   (.ret [a (k true)])))
def tr_laws_eqIntS : Tr := .ite (ne (ln (v (L I) 0)) (ln (v (L I) 1)))
 (.ret [a (k false)])
 (.loop [a (v (L I) 0), a (v (L I) 1), a (c 0)]
  (.ite (lt (v I 2) (ln (v (L I) 0)))
   (.guard (le (c 0) (v I 2))
    (.guard (lt (v I 2) (ln (v (L I) 0)))
     (.guard (le (c 0) (v I 2))
      (.guard (lt (v I 2) (ln (v (L I) 1)))
       (.ite (ne (ix (v (L I) 0) (v I 2)) (ix (v (L I) 1) (v I 2)))
        (.ret [a (k false)])
        (.jump 0 [a (v (L I) 0), a (v (L I) 1), a (add (v I 2) (c 1))]))))))
   (.ret [a (k true)])))
def tr_laws_eqTermSS : Tr := .ite (ne (ln (v (L (L T4)) 0)) (ln (v (L (L T4)) 1)))
 (.ret [a (k false)])
 (.loop [a (v (L (L T4)) 0), a (v (L (L T4)) 1), a (c 0)]
  (.ite (lt (v I 2) (ln (v (L (L T4)) 0)))
   (.guard (le (c 0) (v I 2))
    (.guard (lt (v I 2) (ln (v (L (L T4)) 0)))
     (.guard (le (c 0) (v I 2))
      (.guard (lt (v I 2) (ln (v (L (L T4)) 1)))
       (.call f_laws_eqTermS [a (ix (v (L (L T4)) 0) (v I 2)), a (ix (v (L (L T4)) 1) (v I 2))] 771
        (.ite (nt (v B 771))
         (.ret [a (k false)])
         (.jump 0 [a (v (L (L T4)) 0), a (v (L (L T4)) 1), a (add (v I 2) (c 1))])))))))
   (.ret [a (k true)])))
def tr_laws_eqRule : Tr := .call f_laws_eqTermS [a (v (L T4) 0), a (v (L T4) 3)] 100448
 (.ite (nt (v B 100448))
  (.ret [a (k false)])
  (.call f_laws_eqIntS [a (v (L I) 1), a (v (L I) 4)] 100832
   (.ite (nt (v B 100832))
    (.ret [a (k false)])
    (.call f_laws_eqTermSS [a (v (L (L T4)) 2), a (v (L (L T4)) 5)] 101216
     (.ite (nt (v B 101216))
      (.ret [a (k false)])
      (.ret [a (k true)]))))))
def tr_laws_eqRuleS : Tr := .ite (ne (ln (v (L TR) 0)) (ln (v (L TR) 1)))
 (.ret [a (k false)])
 (.loop [a (v (L TR) 0), a (v (L TR) 1), a (c 0)]
  (.ite (lt (v I 2) (ln (v (L TR) 0)))
   (.guard (le (c 0) (v I 2))
    (.guard (lt (v I 2) (ln (v (L TR) 0)))
     (.guard (le (c 0) (v I 2))
      (.guard (lt (v I 2) (ln (v (L TR) 1)))
       (.call f_laws_eqRule [a (f (ix (v (L TR) 0) (v I 2))), a (f (s (ix (v (L TR) 0) (v I 2)))), a (s (s (ix (v (L TR) 0) (v I 2)))), a (f (ix (v (L TR) 1) (v I 2))), a (f (s (ix (v (L TR) 1) (v I 2)))), a (s (s (ix (v (L TR) 1) (v I 2))))] 771
        (.ite (nt (v B 771))
         (.ret [a (k false)])
         (.jump 0 [a (v (L TR) 0), a (v (L TR) 1), a (add (v I 2) (c 1))])))))))
   (.ret [a (k true)])))
def tr_laws_eqSystem : Tr := .call f_laws_eqVarS [a (v (L V3) 0), a (v (L V3) 2)] 100448
 (.ite (nt (v B 100448))
  (.ret [a (k false)])
  (.call f_laws_eqRuleS [a (v (L TR) 1), a (v (L TR) 3)] 100832
   (.ite (nt (v B 100832))
    (.ret [a (k false)])
    (.ret [a (k true)]))))
def tr_laws_FnExactStepsCount : Tr := .call f_laws_szSystem [a (v (L V3) 0), a (v (L TR) 1), a (c 1048576)] 100320
 (.ite (lt (v I 100320) (c 0))
  (.ret [a (k true)])
  (.call f_laws_toSystem [a (v (L V3) 0), a (v (L TR) 1)] 100640
   (.call f_spec_StepsCount [a (v (L V3) 100640), a (v (L TR) 100641)] 100704
    (.call f_laws_toSystem [a (v (L V3) 0), a (v (L TR) 1)] 100896
     (.call f_impl_StepsCount [a (v (L V3) 100896), a (v (L TR) 100897)] 101152
      (.ite (ne (v I 101152) (v I 100704))
       (.ret [a (k false)])
       (.call f_laws_toSystem [a (v (L V3) 0), a (v (L TR) 1)] 101600
        (.call f_laws_eqSystem [a (v (L V3) 100896), a (v (L TR) 100897), a (v (L V3) 101600), a (v (L TR) 101601)] 101664
         (.ite (nt (v B 101664))
          (.ret [a (k false)])
          (.ret [a (k true)]))))))))))
end Go.Proofs.YtboikipchhgdlaaGreat
namespace Go.Proofs.YtboikipchhgdlaaGreat
open Go Go.Sm Go.Sm.Q
set_option maxRecDepth 100000
def trL : List (Nat × Tr) := [
(f_laws_szVarS, tr_laws_szVarS),
(f_laws_szTermS, tr_laws_szTermS),
(f_laws_szIntS, tr_laws_szIntS),
(f_laws_szTermSS, tr_laws_szTermSS),
(f_laws_szRule, tr_laws_szRule),
(f_laws_szRuleS, tr_laws_szRuleS),
(f_laws_szSystem, tr_laws_szSystem),
(f_laws_toVar, tr_laws_toVar),
(f_laws_toVarS, tr_laws_toVarS),
(f_laws_toTerm, tr_laws_toTerm),
(f_laws_toTermS, tr_laws_toTermS),
(f_laws_toIntS, tr_laws_toIntS),
(f_laws_toTermSS, tr_laws_toTermSS),
(f_laws_toRule, tr_laws_toRule),
(f_laws_toRuleS, tr_laws_toRuleS),
(f_laws_toSystem, tr_laws_toSystem),
(f_spec_l1In, tr_spec_l1In),
(f_spec_l2Var, tr_spec_l2Var),
(f_spec_l1One, tr_spec_l1One),
(f_spec_l1Kind, tr_spec_l1Kind),
(f_spec_KindsOf, tr_spec_KindsOf),
(f_spec_l2Is, tr_spec_l2Is),
(f_spec_l2Rule, tr_spec_l2Rule),
(f_spec_SystemValid, tr_spec_SystemValid),
(f_spec_l6Many, tr_spec_l6Many),
(f_spec_l6Widths, tr_spec_l6Widths),
(f_spec_l6Sum, tr_spec_l6Sum),
(f_spec_l10Wide, tr_spec_l10Wide),
(f_spec_SizeOf, tr_spec_SizeOf),
(f_spec_FirstState, tr_spec_FirstState),
(f_spec_l3Copy, tr_spec_l3Copy),
(f_spec_l4State, tr_spec_l4State),
(f_spec_l1Held, tr_spec_l1Held),
(f_spec_l1Truth, tr_spec_l1Truth),
(f_spec_l1Do, tr_spec_l1Do),
(f_spec_l1Values, tr_spec_l1Values),
(f_spec_l2Last, tr_spec_l2Last),
(f_spec_l2In, tr_spec_l2In),
(f_spec_l2Use, tr_spec_l2Use),
(f_spec_l2Same, tr_spec_l2Same),
(f_spec_l2Less, tr_spec_l2Less),
(f_spec_l2Put, tr_spec_l2Put),
(f_spec_l2Next, tr_spec_l2Next),
(f_spec_l4Number, tr_spec_l4Number),
(f_spec_l4Steps, tr_spec_l4Steps),
(f_spec_l6Value, tr_spec_l6Value),
(f_spec_l6State, tr_spec_l6State),
(f_spec_l10Both, tr_spec_l10Both),
(f_spec_l10Steps, tr_spec_l10Steps),
(f_spec_l6Number, tr_spec_l6Number),
(f_spec_l8Add, tr_spec_l8Add),
(f_spec_l8Rows, tr_spec_l8Rows),
(f_spec_l10Of, tr_spec_l10Of),
(f_spec_StepDiagram, tr_spec_StepDiagram),
(f_spec_l8Var, tr_spec_l8Var),
(f_spec_l8Fork, tr_spec_l8Fork),
(f_spec_DiagramValid, tr_spec_DiagramValid),
(f_spec_l8Place, tr_spec_l8Place),
(f_spec_l8Count, tr_spec_l8Count),
(f_spec_DiagramCount, tr_spec_DiagramCount),
(f_spec_StepsCount, tr_spec_StepsCount),
(f_impl_in, tr_impl_in),
(f_impl_varOk, tr_impl_varOk),
(f_impl_size, tr_impl_size),
(f_impl_parts, tr_impl_parts),
(f_impl_kindsOf, tr_impl_kindsOf),
(f_impl_kindOf, tr_impl_kindOf),
(f_impl_ruleOk, tr_impl_ruleOk),
(f_impl_SystemValid, tr_impl_SystemValid),
(f_impl_bitsFor, tr_impl_bitsFor),
(f_impl_clone_int, tr_impl_clone_int),
(f_impl_bitsOf, tr_impl_bitsOf),
(f_impl_bitCount, tr_impl_bitCount),
(f_impl_halfNarrow, tr_impl_halfNarrow),
(f_impl_stateAt, tr_impl_stateAt),
(f_impl_held, tr_impl_held),
(f_impl_bit, tr_impl_bit),
(f_impl_do, tr_impl_do),
(f_impl_eval, tr_impl_eval),
(f_impl_inRange, tr_impl_inRange),
(f_impl_use, tr_impl_use),
(f_cmp_isNaN_int, tr_cmp_isNaN_int),
(f_cmp_Compare_int, tr_cmp_Compare_int),
(f_slices_Compare_Sint_int, tr_slices_Compare_Sint_int),
(f_slices_Reverse_SSint_Sint, tr_slices_Reverse_SSint_Sint),
(f_impl_clone_Sint, tr_impl_clone_Sint),
(f_impl_nextStates, tr_impl_nextStates),
(f_impl_number, tr_impl_number),
(f_impl_nexts, tr_impl_nexts),
(f_impl_StepsCount, tr_impl_StepsCount),
(f_laws_eqVar, tr_laws_eqVar),
(f_laws_eqVarS, tr_laws_eqVarS),
(f_laws_eqTerm, tr_laws_eqTerm),
(f_laws_eqTermS, tr_laws_eqTermS),
(f_laws_eqIntS, tr_laws_eqIntS),
(f_laws_eqTermSS, tr_laws_eqTermSS),
(f_laws_eqRule, tr_laws_eqRule),
(f_laws_eqRuleS, tr_laws_eqRuleS),
(f_laws_eqSystem, tr_laws_eqSystem),
(f_laws_FnExactStepsCount, tr_laws_FnExactStepsCount)]
def haL : List Nat := []
def mc : Mc := ⟨fun f => (trL.find? (·.1 == f)).map (·.2), fun f ins => if haL.contains f then some ins else none⟩
theorem F_laws_szVarS : mc.F f_laws_szVarS = some tr_laws_szVarS := rfl
theorem F_laws_szTermS : mc.F f_laws_szTermS = some tr_laws_szTermS := rfl
theorem F_laws_szIntS : mc.F f_laws_szIntS = some tr_laws_szIntS := rfl
theorem F_laws_szTermSS : mc.F f_laws_szTermSS = some tr_laws_szTermSS := rfl
theorem F_laws_szRule : mc.F f_laws_szRule = some tr_laws_szRule := rfl
theorem F_laws_szRuleS : mc.F f_laws_szRuleS = some tr_laws_szRuleS := rfl
theorem F_laws_szSystem : mc.F f_laws_szSystem = some tr_laws_szSystem := rfl
theorem F_laws_toVar : mc.F f_laws_toVar = some tr_laws_toVar := rfl
theorem F_laws_toVarS : mc.F f_laws_toVarS = some tr_laws_toVarS := rfl
theorem F_laws_toTerm : mc.F f_laws_toTerm = some tr_laws_toTerm := rfl
theorem F_laws_toTermS : mc.F f_laws_toTermS = some tr_laws_toTermS := rfl
theorem F_laws_toIntS : mc.F f_laws_toIntS = some tr_laws_toIntS := rfl
theorem F_laws_toTermSS : mc.F f_laws_toTermSS = some tr_laws_toTermSS := rfl
theorem F_laws_toRule : mc.F f_laws_toRule = some tr_laws_toRule := rfl
theorem F_laws_toRuleS : mc.F f_laws_toRuleS = some tr_laws_toRuleS := rfl
theorem F_laws_toSystem : mc.F f_laws_toSystem = some tr_laws_toSystem := rfl
theorem F_spec_l1In : mc.F f_spec_l1In = some tr_spec_l1In := rfl
theorem F_spec_l2Var : mc.F f_spec_l2Var = some tr_spec_l2Var := rfl
theorem F_spec_l1One : mc.F f_spec_l1One = some tr_spec_l1One := rfl
theorem F_spec_l1Kind : mc.F f_spec_l1Kind = some tr_spec_l1Kind := rfl
theorem F_spec_KindsOf : mc.F f_spec_KindsOf = some tr_spec_KindsOf := rfl
theorem F_spec_l2Is : mc.F f_spec_l2Is = some tr_spec_l2Is := rfl
theorem F_spec_l2Rule : mc.F f_spec_l2Rule = some tr_spec_l2Rule := rfl
theorem F_spec_SystemValid : mc.F f_spec_SystemValid = some tr_spec_SystemValid := rfl
theorem F_spec_l6Many : mc.F f_spec_l6Many = some tr_spec_l6Many := rfl
theorem F_spec_l6Widths : mc.F f_spec_l6Widths = some tr_spec_l6Widths := rfl
theorem F_spec_l6Sum : mc.F f_spec_l6Sum = some tr_spec_l6Sum := rfl
theorem F_spec_l10Wide : mc.F f_spec_l10Wide = some tr_spec_l10Wide := rfl
theorem F_spec_SizeOf : mc.F f_spec_SizeOf = some tr_spec_SizeOf := rfl
theorem F_spec_FirstState : mc.F f_spec_FirstState = some tr_spec_FirstState := rfl
theorem F_spec_l3Copy : mc.F f_spec_l3Copy = some tr_spec_l3Copy := rfl
theorem F_spec_l4State : mc.F f_spec_l4State = some tr_spec_l4State := rfl
theorem F_spec_l1Held : mc.F f_spec_l1Held = some tr_spec_l1Held := rfl
theorem F_spec_l1Truth : mc.F f_spec_l1Truth = some tr_spec_l1Truth := rfl
theorem F_spec_l1Do : mc.F f_spec_l1Do = some tr_spec_l1Do := rfl
theorem F_spec_l1Values : mc.F f_spec_l1Values = some tr_spec_l1Values := rfl
theorem F_spec_l2Last : mc.F f_spec_l2Last = some tr_spec_l2Last := rfl
theorem F_spec_l2In : mc.F f_spec_l2In = some tr_spec_l2In := rfl
theorem F_spec_l2Use : mc.F f_spec_l2Use = some tr_spec_l2Use := rfl
theorem F_spec_l2Same : mc.F f_spec_l2Same = some tr_spec_l2Same := rfl
theorem F_spec_l2Less : mc.F f_spec_l2Less = some tr_spec_l2Less := rfl
theorem F_spec_l2Put : mc.F f_spec_l2Put = some tr_spec_l2Put := rfl
theorem F_spec_l2Next : mc.F f_spec_l2Next = some tr_spec_l2Next := rfl
theorem F_spec_l4Number : mc.F f_spec_l4Number = some tr_spec_l4Number := rfl
theorem F_spec_l4Steps : mc.F f_spec_l4Steps = some tr_spec_l4Steps := rfl
theorem F_spec_l6Value : mc.F f_spec_l6Value = some tr_spec_l6Value := rfl
theorem F_spec_l6State : mc.F f_spec_l6State = some tr_spec_l6State := rfl
theorem F_spec_l10Both : mc.F f_spec_l10Both = some tr_spec_l10Both := rfl
theorem F_spec_l10Steps : mc.F f_spec_l10Steps = some tr_spec_l10Steps := rfl
theorem F_spec_l6Number : mc.F f_spec_l6Number = some tr_spec_l6Number := rfl
theorem F_spec_l8Add : mc.F f_spec_l8Add = some tr_spec_l8Add := rfl
theorem F_spec_l8Rows : mc.F f_spec_l8Rows = some tr_spec_l8Rows := rfl
theorem F_spec_l10Of : mc.F f_spec_l10Of = some tr_spec_l10Of := rfl
theorem F_spec_StepDiagram : mc.F f_spec_StepDiagram = some tr_spec_StepDiagram := rfl
theorem F_spec_l8Var : mc.F f_spec_l8Var = some tr_spec_l8Var := rfl
theorem F_spec_l8Fork : mc.F f_spec_l8Fork = some tr_spec_l8Fork := rfl
theorem F_spec_DiagramValid : mc.F f_spec_DiagramValid = some tr_spec_DiagramValid := rfl
theorem F_spec_l8Place : mc.F f_spec_l8Place = some tr_spec_l8Place := rfl
theorem F_spec_l8Count : mc.F f_spec_l8Count = some tr_spec_l8Count := rfl
theorem F_spec_DiagramCount : mc.F f_spec_DiagramCount = some tr_spec_DiagramCount := rfl
theorem F_spec_StepsCount : mc.F f_spec_StepsCount = some tr_spec_StepsCount := rfl
theorem F_impl_in : mc.F f_impl_in = some tr_impl_in := rfl
theorem F_impl_varOk : mc.F f_impl_varOk = some tr_impl_varOk := rfl
theorem F_impl_size : mc.F f_impl_size = some tr_impl_size := rfl
theorem F_impl_parts : mc.F f_impl_parts = some tr_impl_parts := rfl
theorem F_impl_kindsOf : mc.F f_impl_kindsOf = some tr_impl_kindsOf := rfl
theorem F_impl_kindOf : mc.F f_impl_kindOf = some tr_impl_kindOf := rfl
theorem F_impl_ruleOk : mc.F f_impl_ruleOk = some tr_impl_ruleOk := rfl
theorem F_impl_SystemValid : mc.F f_impl_SystemValid = some tr_impl_SystemValid := rfl
theorem F_impl_bitsFor : mc.F f_impl_bitsFor = some tr_impl_bitsFor := rfl
theorem F_impl_clone_int : mc.F f_impl_clone_int = some tr_impl_clone_int := rfl
theorem F_impl_bitsOf : mc.F f_impl_bitsOf = some tr_impl_bitsOf := rfl
theorem F_impl_bitCount : mc.F f_impl_bitCount = some tr_impl_bitCount := rfl
theorem F_impl_halfNarrow : mc.F f_impl_halfNarrow = some tr_impl_halfNarrow := rfl
theorem F_impl_stateAt : mc.F f_impl_stateAt = some tr_impl_stateAt := rfl
theorem F_impl_held : mc.F f_impl_held = some tr_impl_held := rfl
theorem F_impl_bit : mc.F f_impl_bit = some tr_impl_bit := rfl
theorem F_impl_do : mc.F f_impl_do = some tr_impl_do := rfl
theorem F_impl_eval : mc.F f_impl_eval = some tr_impl_eval := rfl
theorem F_impl_inRange : mc.F f_impl_inRange = some tr_impl_inRange := rfl
theorem F_impl_use : mc.F f_impl_use = some tr_impl_use := rfl
theorem F_cmp_isNaN_int : mc.F f_cmp_isNaN_int = some tr_cmp_isNaN_int := rfl
theorem F_cmp_Compare_int : mc.F f_cmp_Compare_int = some tr_cmp_Compare_int := rfl
theorem F_slices_Compare_Sint_int : mc.F f_slices_Compare_Sint_int = some tr_slices_Compare_Sint_int := rfl
theorem F_slices_Reverse_SSint_Sint : mc.F f_slices_Reverse_SSint_Sint = some tr_slices_Reverse_SSint_Sint := rfl
theorem F_impl_clone_Sint : mc.F f_impl_clone_Sint = some tr_impl_clone_Sint := rfl
theorem F_impl_nextStates : mc.F f_impl_nextStates = some tr_impl_nextStates := rfl
theorem F_impl_number : mc.F f_impl_number = some tr_impl_number := rfl
theorem F_impl_nexts : mc.F f_impl_nexts = some tr_impl_nexts := rfl
theorem F_impl_StepsCount : mc.F f_impl_StepsCount = some tr_impl_StepsCount := rfl
theorem F_laws_eqVar : mc.F f_laws_eqVar = some tr_laws_eqVar := rfl
theorem F_laws_eqVarS : mc.F f_laws_eqVarS = some tr_laws_eqVarS := rfl
theorem F_laws_eqTerm : mc.F f_laws_eqTerm = some tr_laws_eqTerm := rfl
theorem F_laws_eqTermS : mc.F f_laws_eqTermS = some tr_laws_eqTermS := rfl
theorem F_laws_eqIntS : mc.F f_laws_eqIntS = some tr_laws_eqIntS := rfl
theorem F_laws_eqTermSS : mc.F f_laws_eqTermSS = some tr_laws_eqTermSS := rfl
theorem F_laws_eqRule : mc.F f_laws_eqRule = some tr_laws_eqRule := rfl
theorem F_laws_eqRuleS : mc.F f_laws_eqRuleS = some tr_laws_eqRuleS := rfl
theorem F_laws_eqSystem : mc.F f_laws_eqSystem = some tr_laws_eqSystem := rfl
theorem F_laws_FnExactStepsCount : mc.F f_laws_FnExactStepsCount = some tr_laws_FnExactStepsCount := rfl
end Go.Proofs.YtboikipchhgdlaaGreat
