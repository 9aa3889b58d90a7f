/- What the functions of the law come to, as trees; printed by a program; no condition. -/
import Derived.Test.YthapopegchnhlabGreatSmLib4
namespace Go.Proofs.YthapopegchnhlabGreat
open Go Go.Sm Go.Sm.Q
abbrev f_spec_l1In : Nat := 34
abbrev f_spec_l1One : Nat := 135
abbrev f_spec_l1Kind : Nat := 161
abbrev f_spec_KindsOf : Nat := 141
abbrev f_spec_TermsValid : Nat := 134
abbrev f_impl_in : Nat := 28
abbrev f_impl_varOk : Nat := 74
abbrev f_impl_size : Nat := 75
abbrev f_impl_parts : Nat := 164
abbrev f_impl_kindsOf : Nat := 140
abbrev f_impl_kindOf : Nat := 114
abbrev f_impl_ruleOk : Nat := 78
abbrev f_impl_SystemValid : Nat := 36
abbrev f_impl_inRange : Nat := 37
abbrev f_slices_Index_Sint_int : Nat := 108
abbrev f_slices_Contains_Sint_int : Nat := 67
abbrev f_impl_meets : Nat := 82
abbrev f_impl_clone_int : Nat := 66
abbrev f_impl_usedBy : Nat := 119
abbrev f_math_bits_Len32 : Nat := 155
abbrev f_math_bits_Len64 : Nat := 156
abbrev f_math_bits_Len : Nat := 128
abbrev f_cmp_isNaN_int : Nat := 170
abbrev f_cmp_Less_int : Nat := 152
abbrev f_slices_insertionSortOrdered_int : Nat := 146
abbrev f_slices_siftDownOrdered_int : Nat := 165
abbrev f_slices_heapSortOrdered_int : Nat := 147
abbrev f_slices_nextPowerOfTwo : Nat := 166
abbrev f_slices_xorshift_Next : Nat := 167
abbrev f_slices_breakPatternsOrdered_int : Nat := 148
abbrev f_slices_order2Ordered_int : Nat := 174
abbrev f_slices_medianOrdered_int : Nat := 169
abbrev f_slices_medianAdjacentOrdered_int : Nat := 168
abbrev f_slices_choosePivotOrdered_int : Nat := 149
abbrev f_slices_reverseRangeOrdered_int : Nat := 150
abbrev f_slices_partialInsertionSortOrdered_int : Nat := 151
abbrev f_slices_partitionEqualOrdered_int : Nat := 153
abbrev f_slices_partitionOrdered_int : Nat := 154
abbrev f_slices_pdqsortOrdered_int : Nat := 127
abbrev f_impl_touchedBy : Nat := 83
abbrev f_impl_rulesApart : Nat := 41
abbrev f_impl_wakersOf : Nat := 42
abbrev f_impl_stubbornOf : Nat := 30
abbrev f_impl_held : Nat := 142
abbrev f_impl_bit : Nat := 143
abbrev f_impl_do : Nat := 116
abbrev f_impl_eval : Nat := 81
abbrev f_impl_use : Nat := 40
abbrev f_impl_usableIn : Nat := 33
abbrev f_impl_marks : Nat := 32
abbrev f_impl_stubborn_from : Nat := 31
abbrev f_impl_listOf : Nat := 29
abbrev f_spec_l2Var : Nat := 79
abbrev f_spec_l2Is : Nat := 115
abbrev f_spec_l2Rule : Nat := 80
abbrev f_spec_SystemValid : Nat := 38
abbrev f_spec_l2In : Nat := 39
abbrev f_spec_l1Held : Nat := 172
abbrev f_spec_l1Truth : Nat := 173
abbrev f_spec_l1Do : Nat := 162
abbrev f_spec_l1Values : Nat := 138
abbrev f_spec_l2Last : Nat := 109
abbrev f_spec_l2Use : Nat := 68
abbrev f_spec_l1Needed : Nat := 163
abbrev f_spec_UsedBy : Nat := 139
abbrev f_spec_l2Has : Nat := 70
abbrev f_spec_TouchedBy : Nat := 110
abbrev f_spec_l26Meet : Nat := 111
abbrev f_spec_l26Apart : Nat := 69
abbrev f_spec_l26Wakers : Nat := 71
abbrev f_spec_l4List : Nat := 47
abbrev f_spec_l26From : Nat := 35
abbrev f_impl_stubborn_in : Nat := 43
abbrev f_spec_l26Usable : Nat := 84
abbrev f_spec_l26Best : Nat := 44
abbrev f_laws_szVarS : Nat := 45
abbrev f_laws_szTermS : Nat := 120
abbrev f_laws_szIntS : Nat := 121
abbrev f_laws_szTermSS : Nat := 122
abbrev f_laws_szRule : Nat := 85
abbrev f_laws_szRuleS : Nat := 46
abbrev f_laws_szSystem : Nat := 18
abbrev f_laws_toVar : Nat := 92
abbrev f_laws_toVarS : Nat := 52
abbrev f_laws_toTerm : Nat := 145
abbrev f_laws_toTermS : Nat := 124
abbrev f_laws_toIntS : Nat := 125
abbrev f_laws_toTermSS : Nat := 126
abbrev f_laws_toRule : Nat := 93
abbrev f_laws_toRuleS : Nat := 53
abbrev f_laws_toSystem : Nat := 20
abbrev f_spec_SizeOf : Nat := 86
abbrev f_spec_FirstState : Nat := 91
abbrev f_spec_l3Copy : Nat := 123
abbrev f_spec_l4State : Nat := 87
abbrev f_spec_l4Number : Nat := 88
abbrev f_spec_l17Ordered : Nat := 89
abbrev f_spec_l26Steps : Nat := 50
abbrev f_spec_l4Marks : Nat := 90
abbrev f_spec_l5First : Nat := 51
abbrev f_spec_l5Steps : Nat := 49
abbrev f_spec_l5Told : Nat := 48
abbrev f_spec_ReducedReach : Nat := 19
abbrev f_impl_stateAt : Nat := 95
abbrev f_impl_number : Nat := 56
abbrev f_impl_reducedNexts : Nat := 55
abbrev f_impl_first : Nat := 57
abbrev f_impl_reach : Nat := 54
abbrev f_impl_ReducedReach : Nat := 21
abbrev f_laws_eqIntS : Nat := 22
abbrev f_laws_eqVar : Nat := 98
abbrev f_laws_eqVarS : Nat := 58
abbrev f_laws_eqTerm : Nat := 157
abbrev f_laws_eqTermS : Nat := 129
abbrev f_laws_eqTermSS : Nat := 130
abbrev f_laws_eqRule : Nat := 99
abbrev f_laws_eqRuleS : Nat := 59
abbrev f_laws_eqSystem : Nat := 23
abbrev f_laws_markVarS : Nat := 60
abbrev f_laws_markTermS : Nat := 100
abbrev f_laws_markIntS : Nat := 25
abbrev f_laws_markTermSS : Nat := 101
abbrev f_laws_markRuleS : Nat := 61
abbrev f_laws_markSystem : Nat := 24
abbrev f_laws_heldIntS : Nat := 26
abbrev f_laws_FnExactReducedReach : Nat := 4
abbrev f_slices_Sort_Sint_int : Nat := 96
abbrev f_slices_Compact_Sint_int : Nat := 97
abbrev f_slices_Clone_Sint_int : Nat := 94
def tr_spec_l1In : Tr := .ite (ge (v I 0) (v I 1))
 (.ret [a (le (v I 0) (v I 2))])
 (.ret [a (k false)])
def tr_spec_l1One : Tr := .ret [a (eq (v I 0) (c 7))]
def tr_spec_l1Kind : Tr := .join
 (.ite (eq (v I 0) (c 0))
  (.call f_spec_l1In [a (v I 1), a (c (-9999)), a (c 9999)] 100512
   (.ite (v B 100512)
    (.ite (eq (v I 2) (c 0))
     (.ite (eq (v I 3) (c 0))
      (.ret [a (c 1)])
      (.jump 0 [a (v (L I) 4), a (v I 5), a (v I 0), a (v I 1), a (v I 2), a (v I 3)]))
     (.jump 0 [a (v (L I) 4), a (v I 5), a (v I 0), a (v I 1), a (v I 2), a (v I 3)]))
    (.jump 0 [a (v (L I) 4), a (v I 5), a (v I 0), a (v I 1), a (v I 2), a (v I 3)])))
  (.jump 0 [a (v (L I) 4), a (v I 5), a (v I 0), a (v I 1), a (v I 2), a (v I 3)]))
 (.join
  (.ite (eq (v I 2) (c 1))
   (.call f_spec_l1In [a (v I 3), a (c 0), a (sub (v I 1) (c 1))] 519
    (.ite (v B 519)
     (.ite (eq (v I 4) (c 0))
      (.ite (eq (v I 5) (c 0))
       (.ret [a (c 1)])
       (.jump 0 [a (v (L I) 0), a (v I 2), a (v I 3), a (v I 4), a (v I 5)]))
      (.jump 0 [a (v (L I) 0), a (v I 2), a (v I 3), a (v I 4), a (v I 5)]))
     (.jump 0 [a (v (L I) 0), a (v I 2), a (v I 3), a (v I 4), a (v I 5)])))
   (.jump 0 [a (v (L I) 0), a (v I 2), a (v I 3), a (v I 4), a (v I 5)]))
  (.call f_spec_l1In [a (v I 1), a (c 2), a (c 9)] 134
   (.ite (nt (v B 134))
    (.ret [a (c 0)])
    (.ite (ne (v I 2) (c 0))
     (.ret [a (c 0)])
     (.call f_spec_l1In [a (v I 3), a (c 0), a (sub (ln (v (L I) 0)) (c 1))] 966
      (.ite (nt (v B 966))
       (.ret [a (c 0)])
       (.call f_spec_l1In [a (v I 4), a (c 0), a (sub (ln (v (L I) 0)) (c 1))] 1542
        (.ite (nt (v B 1542))
         (.ret [a (c 0)])
         (.join
          (.ite (ge (v I 1) (c 7))
           (.jump 0 [a (v (L I) 0), a (c 2), a (v I 1), a (v I 2), a (v I 3), a (v I 4)])
           (.jump 0 [a (v (L I) 0), a (c 1), a (v I 1), a (v I 2), a (v I 3), a (v I 4)]))
          (.join
           (.guard (le (c 0) (v I 4))
            (.guard (lt (v I 4) (ln (v (L I) 0)))
             (.ite (ne (ix (v (L I) 0) (v I 4)) (v I 1))
              (.ret [a (c 0)])
              (.guard (le (c 0) (v I 5))
               (.guard (lt (v I 5) (ln (v (L I) 0)))
                (.ite (ne (ix (v (L I) 0) (v I 5)) (v I 1))
                 (.ret [a (c 0)])
                 (.call f_spec_l1One [a (v I 2)] 1223
                  (.ite (v B 1223)
                   (.ite (ne (v I 5) (v I 4))
                    (.ret [a (c 0)])
                    (.jump 0 [a (v I 2), a (v I 3), a (v I 4), a (v I 5)]))
                   (.jump 0 [a (v I 2), a (v I 3), a (v I 4), a (v I 5)])))))))))
           (.ite (ge (v I 0) (c 5))
            (.ret [a (c 2)])
            (.ret [a (c 1)]))))))))))))
def tr_spec_KindsOf : Tr := .call f_spec_l1In [a (v I 1), a (c 0), a (c 5)] 100128
 (.ite (nt (v B 100128))
  (.ret [a (nl I)])
  (.call f_spec_l1In [a (ln (v (L T4) 0)), a (c 1), a (c 40)] 100448
   (.ite (nt (v B 100448))
    (.ret [a (nl I)])
    (.loop [a (v (L T4) 0), a (v I 1), a (c 0), a (nl I)]
     (.ite (lt (v I 2) (ln (v (L T4) 0)))
      (.guard (le (c 0) (v I 2))
       (.guard (lt (v I 2) (ln (v (L T4) 0)))
        (.call f_spec_l1Kind [a (f (ix (v (L T4) 0) (v I 2))), a (f (s (ix (v (L T4) 0) (v I 2)))), a (f (s (s (ix (v (L T4) 0) (v I 2))))), a (s (s (s (ix (v (L T4) 0) (v I 2))))), a (v (L I) 3), a (v I 1)] 645
         (.ite (eq (v I 645) (c 0))
          (.ret [a (nl I)])
          (.guard (le (ln (v (L I) 3)) (c 549755813888))
           (.guard (le (ln (one (v I 645))) (c 549755813888))
            (.jump 0 [a (v (L T4) 0), a (v I 1), a (add (v I 2) (c 1)), a (app (v (L I) 3) (one (v I 645)))])))))))
      (.ret [a (v (L I) 3)]))))))
def tr_spec_TermsValid : Tr := .call f_spec_KindsOf [a (v (L T4) 0), a (v I 1)] 100192
 (.ret [a (gt (ln (v (L I) 100192)) (c 0))])
def tr_impl_in : Tr := .ite (ge (v I 0) (v I 1))
 (.ret [a (le (v I 0) (v I 2))])
 (.ret [a (k false)])
def tr_impl_varOk : Tr := .call f_impl_in [a (v I 0), a (c (-9999)), a (c 9999)] 100256
 (.ite (v B 100256)
  (.call f_impl_in [a (v I 1), a (v I 0), a (c 9999)] 100640
   (.ite (v B 100640)
    (.ite (lt (sub (v I 1) (v I 0)) (c 20))
     (.call f_impl_in [a (v I 2), a (v I 0), a (v I 1)] 101728
      (.ret [a (v B 101728)]))
     (.ret [a (k false)]))
    (.ret [a (k false)])))
  (.ret [a (k false)]))
def tr_impl_size : Tr := .loop [a (c 1), a (v (L V3) 0), a (ln (v (L V3) 0)), a (c 0)]
 (.ite (lt (v I 3) (v I 2))
  (.guard (le (c 0) (v I 3))
   (.guard (lt (v I 3) (ln (v (L V3) 1)))
    (.jump 0 [a (mul (v I 0) (add (sub (f (s (ix (v (L V3) 1) (v I 3)))) (f (ix (v (L V3) 1) (v I 3)))) (c 1))), a (v (L V3) 1), a (v I 2), a (add (v I 3) (c 1))])))
  (.ret [a (v I 0)]))
def tr_impl_parts : Tr := .ite (eq (v I 0) (c 2))
 (.ret [a (c 2), a (c 1), a (c 1)])
 (.ite (eq (v I 0) (c 3))
  (.ret [a (c 2), a (c 1), a (c 1)])
  (.ite (eq (v I 0) (c 4))
   (.ret [a (c 2), a (c 1), a (c 1)])
   (.ite (eq (v I 0) (c 5))
    (.ret [a (c 2), a (c 1), a (c 2)])
    (.ite (eq (v I 0) (c 6))
     (.ret [a (c 2), a (c 1), a (c 2)])
     (.ite (eq (v I 0) (c 7))
      (.ret [a (c 1), a (c 2), a (c 2)])
      (.ite (eq (v I 0) (c 8))
       (.ret [a (c 2), a (c 2), a (c 2)])
       (.ite (eq (v I 0) (c 9))
        (.ret [a (c 2), a (c 2), a (c 2)])
        (.ret [a (c 0), a (c 0), a (c 1)]))))))))
def tr_impl_kindsOf : Tr := .call f_impl_in [a (v I 1), a (c 0), a (c 5)] 100128
 (.ite (nt (v B 100128))
  (.ret [a (.nil true I)])
  (.call f_impl_in [a (ln (v (L T4) 0)), a (c 1), a (c 40)] 100448
   (.ite (nt (v B 100448))
    (.ret [a (.nil true I)])
    (.guard (le (c 0) (ln (v (L T4) 0)))
     (.guard (le (ln (v (L T4) 0)) (c 549755813888))
      (.loop [a (v I 1), a (v (L T4) 0), a (ln (v (L T4) 0)), a (c 0), a (rep (c 0) (z I))]
       (.ite (lt (v I 3) (v I 2))
        (.guard (le (c 0) (v I 3))
         (.guard (lt (v I 3) (ln (v (L T4) 1)))
          (.call f_impl_parts [a (f (ix (v (L T4) 1) (v I 3)))] 582
           (.call f_impl_in [a (f (ix (v (L T4) 1) (v I 3))), a (c 0), a (c 9)] 1222
            (.join
             (.ite (eq (f (ix (v (L T4) 1) (v I 3))) (c 0))
              (.call f_impl_in [a (f (s (ix (v (L T4) 1) (v I 3)))), a (c (-9999)), a (c 9999)] 1734
               (.ite (v B 1734)
                (.ite (eq (f (s (s (ix (v (L T4) 1) (v I 3))))) (c 0))
                 (.jump 0 [a (v I 0), a (v I 584), a (eq (s (s (s (ix (v (L T4) 1) (v I 3))))) (c 0)), a (v (L T4) 1), a (v I 2), a (v I 3), a (v (L I) 4)])
                 (.jump 0 [a (v I 0), a (v I 584), a (k false), a (v (L T4) 1), a (v I 2), a (v I 3), a (v (L I) 4)]))
                (.jump 0 [a (v I 0), a (v I 584), a (k false), a (v (L T4) 1), a (v I 2), a (v I 3), a (v (L I) 4)])))
              (.ite (eq (f (ix (v (L T4) 1) (v I 3))) (c 1))
               (.call f_impl_in [a (f (s (ix (v (L T4) 1) (v I 3)))), a (c 0), a (sub (v I 0) (c 1))] 2118
                (.ite (v B 2118)
                 (.ite (eq (f (s (s (ix (v (L T4) 1) (v I 3))))) (c 0))
                  (.jump 0 [a (v I 0), a (v I 584), a (eq (s (s (s (ix (v (L T4) 1) (v I 3))))) (c 0)), a (v (L T4) 1), a (v I 2), a (v I 3), a (v (L I) 4)])
                  (.jump 0 [a (v I 0), a (v I 584), a (k false), a (v (L T4) 1), a (v I 2), a (v I 3), a (v (L I) 4)]))
                 (.jump 0 [a (v I 0), a (v I 584), a (k false), a (v (L T4) 1), a (v I 2), a (v I 3), a (v (L I) 4)])))
               (.ite (v B 1222)
                (.ite (eq (f (s (ix (v (L T4) 1) (v I 3)))) (c 0))
                 (.call f_impl_in [a (f (s (s (ix (v (L T4) 1) (v I 3))))), a (c 0), a (sub (v I 3) (c 1))] 2502
                  (.ite (v B 2502)
                   (.call f_impl_in [a (s (s (s (ix (v (L T4) 1) (v I 3))))), a (c 0), a (sub (v I 3) (c 1))] 2950
                    (.ite (v B 2950)
                     (.guard (le (c 0) (f (s (s (ix (v (L T4) 1) (v I 3))))))
                      (.guard (lt (f (s (s (ix (v (L T4) 1) (v I 3))))) (ln (v (L I) 4)))
                       (.ite (eq (ix (v (L I) 4) (f (s (s (ix (v (L T4) 1) (v I 3)))))) (v I 583))
                        (.guard (le (c 0) (s (s (s (ix (v (L T4) 1) (v I 3))))))
                         (.guard (lt (s (s (s (ix (v (L T4) 1) (v I 3))))) (ln (v (L I) 4)))
                          (.ite (eq (ix (v (L I) 4) (s (s (s (ix (v (L T4) 1) (v I 3)))))) (v I 583))
                           (.ite (eq (v I 582) (c 2))
                            (.jump 0 [a (v I 0), a (v I 584), a (k true), a (v (L T4) 1), a (v I 2), a (v I 3), a (v (L I) 4)])
                            (.jump 0 [a (v I 0), a (v I 584), a (eq (f (s (s (ix (v (L T4) 1) (v I 3))))) (s (s (s (ix (v (L T4) 1) (v I 3)))))), a (v (L T4) 1), a (v I 2), a (v I 3), a (v (L I) 4)]))
                           (.jump 0 [a (v I 0), a (v I 584), a (k false), a (v (L T4) 1), a (v I 2), a (v I 3), a (v (L I) 4)]))))
                        (.jump 0 [a (v I 0), a (v I 584), a (k false), a (v (L T4) 1), a (v I 2), a (v I 3), a (v (L I) 4)]))))
                     (.jump 0 [a (v I 0), a (v I 584), a (k false), a (v (L T4) 1), a (v I 2), a (v I 3), a (v (L I) 4)])))
                   (.jump 0 [a (v I 0), a (v I 584), a (k false), a (v (L T4) 1), a (v I 2), a (v I 3), a (v (L I) 4)])))
                 (.jump 0 [a (v I 0), a (v I 584), a (k false), a (v (L T4) 1), a (v I 2), a (v I 3), a (v (L I) 4)]))
                (.jump 0 [a (v I 0), a (v I 584), a (k false), a (v (L T4) 1), a (v I 2), a (v I 3), a (v (L I) 4)]))))
             (.ite (nt (v B 2))
              (.ret [a (.nil true I)])
              (.guard (le (ln (v (L I) 6)) (c 549755813888))
               (.guard (le (ln (one (v I 1))) (c 549755813888))
                (.jump 0 [a (v I 0), a (v (L T4) 3), a (v I 4), a (add (v I 5) (c 1)), a (app (v (L I) 6) (one (v I 1)))])))))))))
        (.guard (nt (emp (v (L I) 4)))
         (.ret [a (re true (v (L I) 4))])))))))))
def tr_impl_kindOf : Tr := .call f_impl_kindsOf [a (v (L T4) 0), a (v I 1)] 100192
 (.ite (emp (v (N I) 100192))
  (.ret [a (c 0)])
  (.guard (le (c 0) (sub (lm (v (N I) 100192)) (c 1)))
   (.guard (lt (sub (lm (v (N I) 100192)) (c 1)) (lm (v (N I) 100192)))
    (.ret [a (im (v (N I) 100192) (sub (lm (v (N I) 100192)) (c 1)))]))))
def tr_impl_ruleOk : Tr := .call f_impl_kindOf [a (v (L T4) 0), a (v I 3)] 100320
 (.ite (ne (v I 100320) (c 2))
  (.ret [a (k false)])
  (.ite (ne (ln (v (L I) 1)) (ln (v (L (L T4)) 2)))
   (.ret [a (k false)])
   (.loop [a (v I 3), a (v (L I) 1), a (ln (v (L I) 1)), a (c 0), a (v (L T4) 0), a (v (L I) 1), a (v (L (L T4)) 2)]
    (.ite (lt (v I 3) (v I 2))
     (.join
      (.guard (le (c 0) (v I 3))
       (.guard (lt (v I 3) (ln (v (L I) 1)))
        (.call f_impl_in [a (ix (v (L I) 1) (v I 3)), a (c 0), a (sub (v I 0) (c 1))] 584
         (.ite (nt (v B 584))
          (.ret [a (k false)])
          (.ite (gt (v I 3) (c 0))
           (.guard (le (c 0) (sub (v I 3) (c 1)))
            (.guard (lt (sub (v I 3) (c 1)) (ln (v (L I) 5)))
             (.ite (ge (ix (v (L I) 5) (sub (v I 3) (c 1))) (ix (v (L I) 1) (v I 3)))
              (.ret [a (k false)])
              (.guard (le (c 0) (v I 3))
               (.guard (lt (v I 3) (ln (v (L (L T4)) 6)))
                (.call f_impl_kindOf [a (ix (v (L (L T4)) 6) (v I 3)), a (v I 0)] 2056
                 (.ite (ne (v I 2056) (c 1))
                  (.ret [a (k false)])
                  (.jump 0 [a (v I 0), a (v (L I) 1), a (v I 2), a (v I 3), a (v (L T4) 4), a (v (L I) 5), a (v (L (L T4)) 6)]))))))))
           (.guard (le (c 0) (v I 3))
            (.guard (lt (v I 3) (ln (v (L (L T4)) 6)))
             (.call f_impl_kindOf [a (ix (v (L (L T4)) 6) (v I 3)), a (v I 0)] 2056
              (.ite (ne (v I 2056) (c 1))
               (.ret [a (k false)])
               (.jump 0 [a (v I 0), a (v (L I) 1), a (v I 2), a (v I 3), a (v (L T4) 4), a (v (L I) 5), a (v (L (L T4)) 6)]))))))))))
      (.jump 0 [a (v I 0), a (v (L I) 1), a (v I 2), a (add (v I 3) (c 1)), a (v (L T4) 4), a (v (L I) 5), a (v (L (L T4)) 6)]))
     (.ret [a (k true)])))))
def tr_impl_SystemValid : Tr := .join
 (.call f_impl_in [a (ln (v (L V3) 0)), a (c 1), a (c 5)] 100320
  (.ite (nt (v B 100320))
   (.ret [a (k false)])
   (.ite (gt (ln (v (L TR) 1)) (c 8))
    (.ret [a (k false)])
    (.loop [a (v (L V3) 0), a (ln (v (L V3) 0)), a (c 0), a (v (L V3) 0), a (v (L TR) 1)]
     (.ite (lt (v I 2) (v I 1))
      (.guard (le (c 0) (v I 2))
       (.guard (lt (v I 2) (ln (v (L V3) 0)))
        (.call f_impl_varOk [a (f (ix (v (L V3) 0) (v I 2))), a (f (s (ix (v (L V3) 0) (v I 2)))), a (s (s (ix (v (L V3) 0) (v I 2))))] 774
         (.ite (nt (v B 774))
          (.ite (ge (v I 2) (c 0))
           (.ret [a (k false)])
           (.call f_impl_size [a (v (L V3) 3)] 3014
            (.ite (gt (v I 3014) (c 400))
             (.ret [a (k false)])
             (.jump 1 [a (v (L V3) 3), a (v (L TR) 4)]))))
          (.jump 0 [a (v (L V3) 0), a (v I 1), a (add (v I 2) (c 1)), a (v (L V3) 3), a (v (L TR) 4)])))))
      (.call f_impl_size [a (v (L V3) 3)] 1670
       (.ite (gt (v I 1670) (c 400))
        (.ret [a (k false)])
        (.jump 1 [a (v (L V3) 3), a (v (L TR) 4)]))))))))
 (.loop [a (v (L TR) 1), a (ln (v (L TR) 1)), a (c 0), a (v (L V3) 0), a (v (L TR) 1)]
  (.ite (lt (v I 2) (v I 1))
   (.guard (le (c 0) (v I 2))
    (.guard (lt (v I 2) (ln (v (L TR) 0)))
     (.call f_impl_ruleOk [a (f (ix (v (L TR) 0) (v I 2))), a (f (s (ix (v (L TR) 0) (v I 2)))), a (s (s (ix (v (L TR) 0) (v I 2)))), a (ln (v (L V3) 3))] 966
      (.ite (nt (v B 966))
       (.ret [a (nt (ge (v I 2) (c 0)))])
       (.jump 0 [a (v (L TR) 0), a (v I 1), a (add (v I 2) (c 1)), a (v (L V3) 3), a (v (L TR) 4)])))))
   (.ret [a (nt (ge (c (-1)) (c 0)))])))
def tr_impl_inRange : Tr := .ite (ne (ln (v (L I) 2)) (ln (v (L V3) 0)))
 (.ret [a (k false)])
 (.loop [a (v (L I) 2), a (v (L V3) 0), a (ln (v (L V3) 0)), a (c 0)]
  (.ite (lt (v I 3) (v I 2))
   (.guard (le (c 0) (v I 3))
    (.guard (lt (v I 3) (ln (v (L V3) 1)))
     (.guard (le (c 0) (v I 3))
      (.guard (lt (v I 3) (ln (v (L I) 0)))
       (.call f_impl_in [a (ix (v (L I) 0) (v I 3)), a (f (ix (v (L V3) 1) (v I 3))), a (f (s (ix (v (L V3) 1) (v I 3))))] 964
        (.ite (nt (v B 964))
         (.ret [a (k false)])
         (.jump 0 [a (v (L I) 0), a (v (L V3) 1), a (v I 2), a (add (v I 3) (c 1))])))))))
   (.ret [a (k true)])))
def tr_slices_Index_Sint_int : Tr := .loop [a (v (L I) 0), a (v I 1), a (ln (v (L I) 0)), a (c 0)]
 (.ite (lt (v I 3) (v I 2))
  (.guard (le (c 0) (v I 3))
   (.guard (lt (v I 3) (ln (v (L I) 0)))
    (.ite (eq (v I 1) (ix (v (L I) 0) (v I 3)))
     (.ret [a (v I 3)])
     (.jump 0 [a (v (L I) 0), a (v I 1), a (v I 2), a (add (v I 3) (c 1))]))))
  (.ret [a (c (-1))]))
def tr_slices_Contains_Sint_int : Tr := .call f_slices_Index_Sint_int [a (v (L I) 0), a (v I 1)] 100192
 (.ret [a (ge (v I 100192) (c 0))])
def tr_impl_meets : Tr := .loop [a (v (L I) 0), a (ln (v (L I) 0)), a (c 0), a (v (L I) 1)]
 (.ite (lt (v I 2) (v I 1))
  (.guard (le (c 0) (v I 2))
   (.guard (lt (v I 2) (ln (v (L I) 0)))
    (.call f_slices_Contains_Sint_int [a (v (L I) 3), a (ix (v (L I) 0) (v I 2))] 773
     (.ite (v B 773)
      (.ret [a (ge (v I 2) (c 0))])
      (.jump 0 [a (v (L I) 0), a (v I 1), a (add (v I 2) (c 1)), a (v (L I) 3)])))))
  (.ret [a (ge (c (-1)) (c 0))]))
def tr_impl_clone_int : Tr := .ite (eq (ln (v (L I) 0)) (c 0))
 (.ret [a (nl I)])
 (.guard (le (c 0) (ln (v (L I) 0)))
  (.guard (le (ln (v (L I) 0)) (c 549755813888))
   (.ret [a (over (rep (ln (v (L I) 0)) (z I)) (v (L I) 0))])))
def tr_impl_usedBy : Tr := .guard (le (c 0) (ln (v (L T4) 0)))
 (.guard (le (ln (v (L T4) 0)) (c 549755813888))
  (.guard (le (c 0) (v I 1))
   (.guard (le (v I 1) (c 549755813888))
    (.guard (le (c 0) (sub (ln (v (L T4) 0)) (c 1)))
     (.guard (lt (sub (ln (v (L T4) 0)) (c 1)) (ln (rep (ln (v (L T4) 0)) (z B))))
      (.loop [a (v (L T4) 0), a (sub (ln (v (L T4) 0)) (c 1)), a (st (rep (ln (v (L T4) 0)) (z B)) (sub (ln (v (L T4) 0)) (c 1)) (k true)), a (rep (v I 1) (z B))]
       (.ite (ge (v I 1) (c 0))
        (.join
         (.guard (le (c 0) (v I 1))
          (.guard (lt (v I 1) (ln (v (L T4) 0)))
           (.guard (le (c 0) (v I 1))
            (.guard (lt (v I 1) (ln (v (L B) 2)))
             (.ite (nt (ix (v (L B) 2) (v I 1)))
              (.jump 0 [a (v (L T4) 0), a (v I 1), a (v (L B) 2), a (v (L B) 3)])
              (.ite (eq (f (ix (v (L T4) 0) (v I 1))) (c 0))
               (.jump 0 [a (v (L T4) 0), a (v I 1), a (v (L B) 2), a (v (L B) 3)])
               (.ite (eq (f (ix (v (L T4) 0) (v I 1))) (c 1))
                (.guard (le (c 0) (f (s (ix (v (L T4) 0) (v I 1)))))
                 (.guard (lt (f (s (ix (v (L T4) 0) (v I 1)))) (ln (v (L B) 3)))
                  (.jump 0 [a (v (L T4) 0), a (v I 1), a (v (L B) 2), a (st (v (L B) 3) (f (s (ix (v (L T4) 0) (v I 1)))) (k true))])))
                (.guard (le (c 0) (f (s (s (ix (v (L T4) 0) (v I 1))))))
                 (.guard (lt (f (s (s (ix (v (L T4) 0) (v I 1))))) (ln (v (L B) 2)))
                  (.guard (le (c 0) (s (s (s (ix (v (L T4) 0) (v I 1))))))
                   (.guard (lt (s (s (s (ix (v (L T4) 0) (v I 1))))) (ln (st (v (L B) 2) (f (s (s (ix (v (L T4) 0) (v I 1))))) (k true))))
                    (.join
                     (.jump 0 [a (v (L T4) 0), a (v I 1), a (st (st (v (L B) 2) (f (s (s (ix (v (L T4) 0) (v I 1))))) (k true)) (s (s (s (ix (v (L T4) 0) (v I 1))))) (k true)), a (v (L B) 3)])
                     (.jump 0 [a (v (L T4) 0), a (v I 1), a (v (L B) 2), a (v (L B) 3)])))))))))))))
         (.jump 0 [a (v (L T4) 0), a (sub (v I 1) (c 1)), a (v (L B) 2), a (v (L B) 3)]))
        (.loop [a (ln (v (L B) 3)), a (c 0), a (nl I), a (v (L B) 3)]
         (.ite (lt (v I 1) (v I 0))
          (.join
           (.guard (le (c 0) (v I 1))
            (.guard (lt (v I 1) (ln (v (L B) 3)))
             (.ite (ix (v (L B) 3) (v I 1))
              (.guard (le (ln (v (L I) 2)) (c 549755813888))
               (.guard (le (ln (one (v I 1))) (c 549755813888))
                (.jump 0 [a (v I 0), a (v I 1), a (app (v (L I) 2) (one (v I 1))), a (v (L B) 3)])))
              (.jump 0 [a (v I 0), a (v I 1), a (v (L I) 2), a (v (L B) 3)]))))
           (.jump 0 [a (v I 0), a (add (v I 1) (c 1)), a (v (L I) 2), a (v (L B) 3)]))
          (.call f_impl_clone_int [a (v (L I) 2)] 134
           (.ret [a (v (L I) 134)])))))))))))
def tr_math_bits_Len32 : Tr := .join
 (.ite (cm .geq (v (.int .u32) 0) (.int .u32 65536))
  (.jump 0 [a (.o2 (.sh false .u32 .u64) (v (.int .u32) 0) (.int .u64 16)), a (c 16)])
  (.jump 0 [a (v (.int .u32) 0), a (c 0)]))
 (.join
  (.ite (cm .geq (v (.int .u32) 0) (.int .u32 256))
   (.jump 0 [a (.o2 (.sh false .u32 .u64) (v (.int .u32) 0) (.int .u64 8)), a (add (v I 1) (c 8))])
   (.jump 0 [a (v (.int .u32) 0), a (v I 1)]))
  (.guard (cm .leq (.int .u8 0) (.o1 (.conv .u32 .u8) (v (.int .u32) 0)))
   (.guard (cm .lss (.o1 (.conv .u32 .u8) (v (.int .u32) 0)) (.o1 .slen (.str (ByteArray.mk #[0, 1, 2, 2, 3, 3, 3, 3, 4, 4, 4, 4, 4, 4, 4, 4, 5, 5, 5, 5, 5, 5, 5, 5, 5, 5, 5, 5, 5, 5, 5, 5, 6, 6, 6, 6, 6, 6, 6, 6, 6, 6, 6, 6, 6, 6, 6, 6, 6, 6, 6, 6, 6, 6, 6, 6, 6, 6, 6, 6, 6, 6, 6, 6, 7, 7, 7, 7, 7, 7, 7, 7, 7, 7, 7, 7, 7, 7, 7, 7, 7, 7, 7, 7, 7, 7, 7, 7, 7, 7, 7, 7, 7, 7, 7, 7, 7, 7, 7, 7, 7, 7, 7, 7, 7, 7, 7, 7, 7, 7, 7, 7, 7, 7, 7, 7, 7, 7, 7, 7, 7, 7, 7, 7, 7, 7, 7, 7, 8, 8, 8, 8, 8, 8, 8, 8, 8, 8, 8, 8, 8, 8, 8, 8, 8, 8, 8, 8, 8, 8, 8, 8, 8, 8, 8, 8, 8, 8, 8, 8, 8, 8, 8, 8, 8, 8, 8, 8, 8, 8, 8, 8, 8, 8, 8, 8, 8, 8, 8, 8, 8, 8, 8, 8, 8, 8, 8, 8, 8, 8, 8, 8, 8, 8, 8, 8, 8, 8, 8, 8, 8, 8, 8, 8, 8, 8, 8, 8, 8, 8, 8, 8, 8, 8, 8, 8, 8, 8, 8, 8, 8, 8, 8, 8, 8, 8, 8, 8, 8, 8, 8, 8, 8, 8, 8, 8, 8, 8, 8, 8, 8, 8, 8, 8, 8, 8, 8, 8, 8, 8, 8, 8, 8, 8, 8, 8]))))
    (.ret [a (add (v I 1) (.o1 (.conv .u8 .i64) (.o2 (.sidx .u8) (.str (ByteArray.mk #[0, 1, 2, 2, 3, 3, 3, 3, 4, 4, 4, 4, 4, 4, 4, 4, 5, 5, 5, 5, 5, 5, 5, 5, 5, 5, 5, 5, 5, 5, 5, 5, 6, 6, 6, 6, 6, 6, 6, 6, 6, 6, 6, 6, 6, 6, 6, 6, 6, 6, 6, 6, 6, 6, 6, 6, 6, 6, 6, 6, 6, 6, 6, 6, 7, 7, 7, 7, 7, 7, 7, 7, 7, 7, 7, 7, 7, 7, 7, 7, 7, 7, 7, 7, 7, 7, 7, 7, 7, 7, 7, 7, 7, 7, 7, 7, 7, 7, 7, 7, 7, 7, 7, 7, 7, 7, 7, 7, 7, 7, 7, 7, 7, 7, 7, 7, 7, 7, 7, 7, 7, 7, 7, 7, 7, 7, 7, 7, 8, 8, 8, 8, 8, 8, 8, 8, 8, 8, 8, 8, 8, 8, 8, 8, 8, 8, 8, 8, 8, 8, 8, 8, 8, 8, 8, 8, 8, 8, 8, 8, 8, 8, 8, 8, 8, 8, 8, 8, 8, 8, 8, 8, 8, 8, 8, 8, 8, 8, 8, 8, 8, 8, 8, 8, 8, 8, 8, 8, 8, 8, 8, 8, 8, 8, 8, 8, 8, 8, 8, 8, 8, 8, 8, 8, 8, 8, 8, 8, 8, 8, 8, 8, 8, 8, 8, 8, 8, 8, 8, 8, 8, 8, 8, 8, 8, 8, 8, 8, 8, 8, 8, 8, 8, 8, 8, 8, 8, 8, 8, 8, 8, 8, 8, 8, 8, 8, 8, 8, 8, 8, 8, 8, 8, 8, 8, 8])) (.o1 (.conv .u32 .u8) (v (.int .u32) 0)))))]))))
def tr_math_bits_Len64 : Tr := .join
 (.ite (cm .geq (v (.int .u64) 0) (.int .u64 4294967296))
  (.jump 0 [a (.o2 (.sh false .u64 .u64) (v (.int .u64) 0) (.int .u64 32)), a (c 32)])
  (.jump 0 [a (v (.int .u64) 0), a (c 0)]))
 (.join
  (.ite (cm .geq (v (.int .u64) 0) (.int .u64 65536))
   (.jump 0 [a (.o2 (.sh false .u64 .u64) (v (.int .u64) 0) (.int .u64 16)), a (add (v I 1) (c 16))])
   (.jump 0 [a (v (.int .u64) 0), a (v I 1)]))
  (.join
   (.ite (cm .geq (v (.int .u64) 0) (.int .u64 256))
    (.jump 0 [a (.o2 (.sh false .u64 .u64) (v (.int .u64) 0) (.int .u64 8)), a (add (v I 1) (c 8))])
    (.jump 0 [a (v (.int .u64) 0), a (v I 1)]))
   (.guard (cm .leq (.int .u8 0) (.o1 (.conv .u64 .u8) (v (.int .u64) 0)))
    (.guard (cm .lss (.o1 (.conv .u64 .u8) (v (.int .u64) 0)) (.o1 .slen (.str (ByteArray.mk #[0, 1, 2, 2, 3, 3, 3, 3, 4, 4, 4, 4, 4, 4, 4, 4, 5, 5, 5, 5, 5, 5, 5, 5, 5, 5, 5, 5, 5, 5, 5, 5, 6, 6, 6, 6, 6, 6, 6, 6, 6, 6, 6, 6, 6, 6, 6, 6, 6, 6, 6, 6, 6, 6, 6, 6, 6, 6, 6, 6, 6, 6, 6, 6, 7, 7, 7, 7, 7, 7, 7, 7, 7, 7, 7, 7, 7, 7, 7, 7, 7, 7, 7, 7, 7, 7, 7, 7, 7, 7, 7, 7, 7, 7, 7, 7, 7, 7, 7, 7, 7, 7, 7, 7, 7, 7, 7, 7, 7, 7, 7, 7, 7, 7, 7, 7, 7, 7, 7, 7, 7, 7, 7, 7, 7, 7, 7, 7, 8, 8, 8, 8, 8, 8, 8, 8, 8, 8, 8, 8, 8, 8, 8, 8, 8, 8, 8, 8, 8, 8, 8, 8, 8, 8, 8, 8, 8, 8, 8, 8, 8, 8, 8, 8, 8, 8, 8, 8, 8, 8, 8, 8, 8, 8, 8, 8, 8, 8, 8, 8, 8, 8, 8, 8, 8, 8, 8, 8, 8, 8, 8, 8, 8, 8, 8, 8, 8, 8, 8, 8, 8, 8, 8, 8, 8, 8, 8, 8, 8, 8, 8, 8, 8, 8, 8, 8, 8, 8, 8, 8, 8, 8, 8, 8, 8, 8, 8, 8, 8, 8, 8, 8, 8, 8, 8, 8, 8, 8, 8, 8, 8, 8, 8, 8, 8, 8, 8, 8, 8, 8, 8, 8, 8, 8, 8, 8]))))
     (.ret [a (add (v I 1) (.o1 (.conv .u8 .i64) (.o2 (.sidx .u8) (.str (ByteArray.mk #[0, 1, 2, 2, 3, 3, 3, 3, 4, 4, 4, 4, 4, 4, 4, 4, 5, 5, 5, 5, 5, 5, 5, 5, 5, 5, 5, 5, 5, 5, 5, 5, 6, 6, 6, 6, 6, 6, 6, 6, 6, 6, 6, 6, 6, 6, 6, 6, 6, 6, 6, 6, 6, 6, 6, 6, 6, 6, 6, 6, 6, 6, 6, 6, 7, 7, 7, 7, 7, 7, 7, 7, 7, 7, 7, 7, 7, 7, 7, 7, 7, 7, 7, 7, 7, 7, 7, 7, 7, 7, 7, 7, 7, 7, 7, 7, 7, 7, 7, 7, 7, 7, 7, 7, 7, 7, 7, 7, 7, 7, 7, 7, 7, 7, 7, 7, 7, 7, 7, 7, 7, 7, 7, 7, 7, 7, 7, 7, 8, 8, 8, 8, 8, 8, 8, 8, 8, 8, 8, 8, 8, 8, 8, 8, 8, 8, 8, 8, 8, 8, 8, 8, 8, 8, 8, 8, 8, 8, 8, 8, 8, 8, 8, 8, 8, 8, 8, 8, 8, 8, 8, 8, 8, 8, 8, 8, 8, 8, 8, 8, 8, 8, 8, 8, 8, 8, 8, 8, 8, 8, 8, 8, 8, 8, 8, 8, 8, 8, 8, 8, 8, 8, 8, 8, 8, 8, 8, 8, 8, 8, 8, 8, 8, 8, 8, 8, 8, 8, 8, 8, 8, 8, 8, 8, 8, 8, 8, 8, 8, 8, 8, 8, 8, 8, 8, 8, 8, 8, 8, 8, 8, 8, 8, 8, 8, 8, 8, 8, 8, 8, 8, 8, 8, 8, 8, 8])) (.o1 (.conv .u64 .u8) (v (.int .u64) 0)))))])))))
def tr_math_bits_Len : Tr := .call f_math_bits_Len64 [a (v (.int .u64) 0)] 100128
 (.ret [a (v I 100128)])
def tr_cmp_isNaN_int : Tr := .ret [a (ne (v I 0) (v I 0))]
def tr_cmp_Less_int : Tr := .call f_cmp_isNaN_int [a (v I 0)] 100128
 (.ite (v B 100128)
  (.call f_cmp_isNaN_int [a (v I 1)] 100320
   (.ite (nt (v B 100320))
    (.ret [a (k true)])
    (.ret [a (lt (v I 0) (v I 1))])))
  (.ret [a (lt (v I 0) (v I 1))]))
def tr_slices_insertionSortOrdered_int : Tr := .loop [a (v I 1), a (v I 2), a (add (v I 1) (c 1)), a (v (L I) 0)]
 (.ite (lt (v I 2) (v I 1))
  (.join
   (.loop [a (v I 0), a (v I 1), a (v I 2), a (v I 2), a (v (L I) 3)]
    (.ite (gt (v I 3) (v I 0))
     (.guard (le (c 0) (v I 3))
      (.guard (lt (v I 3) (ln (v (L I) 4)))
       (.guard (le (c 0) (sub (v I 3) (c 1)))
        (.guard (lt (sub (v I 3) (c 1)) (ln (v (L I) 4)))
         (.call f_cmp_Less_int [a (ix (v (L I) 4) (v I 3)), a (ix (v (L I) 4) (sub (v I 3) (c 1)))] 838
          (.ite (v B 838)
           (.guard (le (c 0) (sub (v I 3) (c 1)))
            (.guard (lt (sub (v I 3) (c 1)) (ln (v (L I) 4)))
             (.guard (le (c 0) (v I 3))
              (.guard (lt (v I 3) (ln (v (L I) 4)))
               (.guard (le (c 0) (v I 3))
                (.guard (lt (v I 3) (ln (v (L I) 4)))
                 (.guard (le (c 0) (sub (v I 3) (c 1)))
                  (.guard (lt (sub (v I 3) (c 1)) (ln (st (v (L I) 4) (v I 3) (ix (v (L I) 4) (sub (v I 3) (c 1))))))
                   (.jump 0 [a (v I 0), a (v I 1), a (v I 2), a (sub (v I 3) (c 1)), a (st (st (v (L I) 4) (v I 3) (ix (v (L I) 4) (sub (v I 3) (c 1)))) (sub (v I 3) (c 1)) (ix (v (L I) 4) (v I 3)))])))))))))
           (.jump 1 [a (v I 0), a (v I 1), a (v I 2), a (v (L I) 4)])))))))
     (.jump 1 [a (v I 0), a (v I 1), a (v I 2), a (v (L I) 4)])))
   (.jump 0 [a (v I 0), a (v I 1), a (add (v I 2) (c 1)), a (v (L I) 3)]))
  (.ret [a (v (L I) 3)]))
def tr_slices_siftDownOrdered_int : Tr := .loop [a (v I 2), a (v I 3), a (v I 1), a (v (L I) 0)]
 (.ite (ge (add (mul (c 2) (v I 2)) (c 1)) (v I 0))
  (.ret [a (v (L I) 3)])
  (.join
   (.ite (lt (add (add (mul (c 2) (v I 2)) (c 1)) (c 1)) (v I 0))
    (.guard (le (c 0) (add (v I 1) (add (mul (c 2) (v I 2)) (c 1))))
     (.guard (lt (add (v I 1) (add (mul (c 2) (v I 2)) (c 1))) (ln (v (L I) 3)))
      (.guard (le (c 0) (add (add (v I 1) (add (mul (c 2) (v I 2)) (c 1))) (c 1)))
       (.guard (lt (add (add (v I 1) (add (mul (c 2) (v I 2)) (c 1))) (c 1)) (ln (v (L I) 3)))
        (.call f_cmp_Less_int [a (ix (v (L I) 3) (add (v I 1) (add (mul (c 2) (v I 2)) (c 1)))), a (ix (v (L I) 3) (add (add (v I 1) (add (mul (c 2) (v I 2)) (c 1))) (c 1)))] 1605
         (.ite (v B 1605)
          (.jump 0 [a (v I 0), a (v I 1), a (v I 2), a (add (add (mul (c 2) (v I 2)) (c 1)) (c 1)), a (v (L I) 3)])
          (.jump 0 [a (v I 0), a (v I 1), a (v I 2), a (add (mul (c 2) (v I 2)) (c 1)), a (v (L I) 3)])))))))
    (.jump 0 [a (v I 0), a (v I 1), a (v I 2), a (add (mul (c 2) (v I 2)) (c 1)), a (v (L I) 3)]))
   (.guard (le (c 0) (add (v I 1) (v I 2)))
    (.guard (lt (add (v I 1) (v I 2)) (ln (v (L I) 4)))
     (.guard (le (c 0) (add (v I 1) (v I 3)))
      (.guard (lt (add (v I 1) (v I 3)) (ln (v (L I) 4)))
       (.call f_cmp_Less_int [a (ix (v (L I) 4) (add (v I 1) (v I 2))), a (ix (v (L I) 4) (add (v I 1) (v I 3)))] 774
        (.ite (nt (v B 774))
         (.ret [a (v (L I) 4)])
         (.guard (le (c 0) (add (v I 1) (v I 3)))
          (.guard (lt (add (v I 1) (v I 3)) (ln (v (L I) 4)))
           (.guard (le (c 0) (add (v I 1) (v I 2)))
            (.guard (lt (add (v I 1) (v I 2)) (ln (v (L I) 4)))
             (.guard (le (c 0) (add (v I 1) (v I 2)))
              (.guard (lt (add (v I 1) (v I 2)) (ln (v (L I) 4)))
               (.guard (le (c 0) (add (v I 1) (v I 3)))
                (.guard (lt (add (v I 1) (v I 3)) (ln (st (v (L I) 4) (add (v I 1) (v I 2)) (ix (v (L I) 4) (add (v I 1) (v I 3))))))
                 (.jump 0 [a (v I 0), a (v I 1), a (v I 3), a (st (st (v (L I) 4) (add (v I 1) (v I 2)) (ix (v (L I) 4) (add (v I 1) (v I 3)))) (add (v I 1) (v I 3)) (ix (v (L I) 4) (add (v I 1) (v I 2))))])))))))))))))))))
def tr_slices_heapSortOrdered_int : Tr := .loop [a (v I 1), a (c 0), a (sub (v I 2) (v I 1)), a (quo (sub (sub (v I 2) (v I 1)) (c 1)) (c 2)), a (v (L I) 0)]
 (.ite (ge (v I 3) (c 0))
  (.call f_slices_siftDownOrdered_int [a (v (L I) 4), a (v I 3), a (v I 2), a (v I 0)] 390
   (.jump 0 [a (v I 0), a (v I 1), a (v I 2), a (sub (v I 3) (c 1)), a (v (L I) 390)]))
  (.loop [a (v I 0), a (v I 1), a (sub (v I 2) (c 1)), a (v (L I) 4)]
   (.ite (ge (v I 2) (c 0))
    (.guard (le (c 0) (add (v I 0) (v I 2)))
     (.guard (lt (add (v I 0) (v I 2)) (ln (v (L I) 3)))
      (.guard (le (c 0) (v I 0))
       (.guard (lt (v I 0) (ln (v (L I) 3)))
        (.guard (le (c 0) (v I 0))
         (.guard (lt (v I 0) (ln (v (L I) 3)))
          (.guard (le (c 0) (add (v I 0) (v I 2)))
           (.guard (lt (add (v I 0) (v I 2)) (ln (st (v (L I) 3) (v I 0) (ix (v (L I) 3) (add (v I 0) (v I 2))))))
            (.call f_slices_siftDownOrdered_int [a (st (st (v (L I) 3) (v I 0) (ix (v (L I) 3) (add (v I 0) (v I 2)))) (add (v I 0) (v I 2)) (ix (v (L I) 3) (v I 0))), a (v I 1), a (v I 2), a (v I 0)] 1669
             (.jump 0 [a (v I 0), a (v I 1), a (sub (v I 2) (c 1)), a (v (L I) 1669)]))))))))))
    (.ret [a (v (L I) 3)]))))
def tr_slices_nextPowerOfTwo : Tr := .call f_math_bits_Len [a (.o1 (.conv .i64 .u64) (v I 0))] 100192
 (.guard (le (c 0) (v I 100192))
  (.ret [a (.o2 (.sh true .u64 .i64) (.int .u64 1) (v I 100192))]))
def tr_slices_xorshift_Next : Tr := .ret [a (ar .xor (ar .xor (ar .xor (v (.int .u64) 0) (.o2 (.sh true .u64 .u64) (v (.int .u64) 0) (.int .u64 13))) (.o2 (.sh false .u64 .u64) (ar .xor (v (.int .u64) 0) (.o2 (.sh true .u64 .u64) (v (.int .u64) 0) (.int .u64 13))) (.int .u64 7))) (.o2 (.sh true .u64 .u64) (ar .xor (ar .xor (v (.int .u64) 0) (.o2 (.sh true .u64 .u64) (v (.int .u64) 0) (.int .u64 13))) (.o2 (.sh false .u64 .u64) (ar .xor (v (.int .u64) 0) (.o2 (.sh true .u64 .u64) (v (.int .u64) 0) (.int .u64 13))) (.int .u64 7))) (.int .u64 17))), a (ar .xor (ar .xor (ar .xor (v (.int .u64) 0) (.o2 (.sh true .u64 .u64) (v (.int .u64) 0) (.int .u64 13))) (.o2 (.sh false .u64 .u64) (ar .xor (v (.int .u64) 0) (.o2 (.sh true .u64 .u64) (v (.int .u64) 0) (.int .u64 13))) (.int .u64 7))) (.o2 (.sh true .u64 .u64) (ar .xor (ar .xor (v (.int .u64) 0) (.o2 (.sh true .u64 .u64) (v (.int .u64) 0) (.int .u64 13))) (.o2 (.sh false .u64 .u64) (ar .xor (v (.int .u64) 0) (.o2 (.sh true .u64 .u64) (v (.int .u64) 0) (.int .u64 13))) (.int .u64 7))) (.int .u64 17)))]
def tr_slices_breakPatternsOrdered_int : Tr := .ite (ge (sub (v I 2) (v I 1)) (c 8))
 (.call f_slices_nextPowerOfTwo [a (sub (v I 2) (v I 1))] 100704
  (.loop [a (v I 1), a (sub (v I 2) (v I 1)), a (v (.int .u64) 100704), a (sub (add (v I 1) (mul (quo (sub (v I 2) (v I 1)) (c 4)) (c 2))) (c 1)), a (v (L I) 0), a (.o1 (.conv .i64 .u64) (sub (v I 2) (v I 1)))]
   (.ite (le (v I 3) (add (add (v I 0) (mul (quo (v I 1) (c 4)) (c 2))) (c 1)))
    (.call f_slices_xorshift_Next [a (v (.int .u64) 5)] 520
     (.join
      (.ite (ge (.o1 (.conv .u64 .i64) (ar .and (v (.int .u64) 520) (ar .sub (v (.int .u64) 2) (.int .u64 1)))) (v I 1))
       (.jump 0 [a (v I 0), a (v I 1), a (v (.int .u64) 2), a (v I 3), a (sub (.o1 (.conv .u64 .i64) (ar .and (v (.int .u64) 520) (ar .sub (v (.int .u64) 2) (.int .u64 1)))) (v I 1)), a (v (L I) 4), a (v (.int .u64) 521)])
       (.jump 0 [a (v I 0), a (v I 1), a (v (.int .u64) 2), a (v I 3), a (.o1 (.conv .u64 .i64) (ar .and (v (.int .u64) 520) (ar .sub (v (.int .u64) 2) (.int .u64 1)))), a (v (L I) 4), a (v (.int .u64) 521)]))
      (.guard (le (c 0) (add (v I 0) (v I 4)))
       (.guard (lt (add (v I 0) (v I 4)) (ln (v (L I) 5)))
        (.guard (le (c 0) (v I 3))
         (.guard (lt (v I 3) (ln (v (L I) 5)))
          (.guard (le (c 0) (v I 3))
           (.guard (lt (v I 3) (ln (v (L I) 5)))
            (.guard (le (c 0) (add (v I 0) (v I 4)))
             (.guard (lt (add (v I 0) (v I 4)) (ln (st (v (L I) 5) (v I 3) (ix (v (L I) 5) (add (v I 0) (v I 4))))))
              (.jump 0 [a (v I 0), a (v I 1), a (v (.int .u64) 2), a (add (v I 3) (c 1)), a (st (st (v (L I) 5) (v I 3) (ix (v (L I) 5) (add (v I 0) (v I 4)))) (add (v I 0) (v I 4)) (ix (v (L I) 5) (v I 3))), a (v (.int .u64) 6)])))))))))))
    (.ret [a (v (L I) 4)]))))
 (.ret [a (v (L I) 0)])
end Go.Proofs.YthapopegchnhlabGreat
namespace Go.Proofs.YthapopegchnhlabGreat
open Go Go.Sm Go.Sm.Q
def tr_slices_order2Ordered_int : Tr := .guard (le (c 0) (v I 2))
 (.guard (lt (v I 2) (ln (v (L I) 0)))
  (.guard (le (c 0) (v I 1))
   (.guard (lt (v I 1) (ln (v (L I) 0)))
    (.call f_cmp_Less_int [a (ix (v (L I) 0) (v I 2)), a (ix (v (L I) 0) (v I 1))] 100640
     (.ite (v B 100640)
      (.ret [a (v I 2), a (v I 1), a (add (v I 3) (c 1))])
      (.ret [a (v I 1), a (v I 2), a (v I 3)]))))))
def tr_slices_medianOrdered_int : Tr := .call f_slices_order2Ordered_int [a (v (L I) 0), a (v I 1), a (v I 2), a (v I 4)] 100320
 (.call f_slices_order2Ordered_int [a (v (L I) 0), a (v I 100321), a (v I 3), a (v I 100322)] 100960
  (.call f_slices_order2Ordered_int [a (v (L I) 0), a (v I 100320), a (v I 100960), a (v I 100962)] 101600
   (.ret [a (v I 101601), a (v I 101602)])))
def tr_slices_medianAdjacentOrdered_int : Tr := .call f_slices_medianOrdered_int [a (v (L I) 0), a (sub (v I 1) (c 1)), a (v I 1), a (add (v I 1) (c 1)), a (v I 2)] 100512
 (.ret [a (v I 100512), a (v I 100513)])
def tr_slices_choosePivotOrdered_int : Tr := .join
 (.ite (ge (sub (v I 2) (v I 1)) (c 8))
  (.join
   (.ite (ge (sub (v I 2) (v I 1)) (c 50))
    (.call f_slices_medianAdjacentOrdered_int [a (v (L I) 0), a (add (v I 1) (mul (quo (sub (v I 2) (v I 1)) (c 4)) (c 1))), a (c 0)] 101984
     (.call f_slices_medianAdjacentOrdered_int [a (v (L I) 0), a (add (v I 1) (mul (quo (sub (v I 2) (v I 1)) (c 4)) (c 2))), a (v I 101985)] 102240
      (.call f_slices_medianAdjacentOrdered_int [a (v (L I) 0), a (add (v I 1) (mul (quo (sub (v I 2) (v I 1)) (c 4)) (c 3))), a (v I 102241)] 102496
       (.jump 0 [a (v (L I) 0), a (v I 101984), a (v I 102240), a (v I 102496), a (v I 102497)]))))
    (.jump 0 [a (v (L I) 0), a (add (v I 1) (mul (quo (sub (v I 2) (v I 1)) (c 4)) (c 1))), a (add (v I 1) (mul (quo (sub (v I 2) (v I 1)) (c 4)) (c 2))), a (add (v I 1) (mul (quo (sub (v I 2) (v I 1)) (c 4)) (c 3))), a (c 0)]))
   (.call f_slices_medianOrdered_int [a (v (L I) 0), a (v I 1), a (v I 2), a (v I 3), a (v I 4)] 262
    (.jump 0 [a (v I 262), a (v I 263)])))
  (.jump 0 [a (add (v I 1) (mul (quo (sub (v I 2) (v I 1)) (c 4)) (c 2))), a (c 0)]))
 (.ite (eq (v I 1) (c 0))
  (.ret [a (v I 0), a (c 1)])
  (.ite (eq (v I 1) (c 12))
   (.ret [a (v I 0), a (c 2)])
   (.ret [a (v I 0), a (c 0)])))
def tr_slices_reverseRangeOrdered_int : Tr := .loop [a (v I 1), a (sub (v I 2) (c 1)), a (v (L I) 0)]
 (.ite (lt (v I 0) (v I 1))
  (.guard (le (c 0) (v I 1))
   (.guard (lt (v I 1) (ln (v (L I) 2)))
    (.guard (le (c 0) (v I 0))
     (.guard (lt (v I 0) (ln (v (L I) 2)))
      (.guard (le (c 0) (v I 0))
       (.guard (lt (v I 0) (ln (v (L I) 2)))
        (.guard (le (c 0) (v I 1))
         (.guard (lt (v I 1) (ln (st (v (L I) 2) (v I 0) (ix (v (L I) 2) (v I 1)))))
          (.jump 0 [a (add (v I 0) (c 1)), a (sub (v I 1) (c 1)), a (st (st (v (L I) 2) (v I 0) (ix (v (L I) 2) (v I 1))) (v I 1) (ix (v (L I) 2) (v I 0)))])))))))))
  (.ret [a (v (L I) 2)]))
def tr_slices_partialInsertionSortOrdered_int : Tr := .loop [a (v I 1), a (v I 2), a (add (v I 1) (c 1)), a (c 0), a (v (L I) 0)]
 (.ite (lt (v I 3) (c 5))
  (.join
   (.join
    (.loop [a (v I 0), a (v I 1), a (v I 2), a (v I 3), a (v (L I) 4)]
     (.ite (lt (v I 2) (v I 1))
      (.guard (le (c 0) (v I 2))
       (.guard (lt (v I 2) (ln (v (L I) 4)))
        (.guard (le (c 0) (sub (v I 2) (c 1)))
         (.guard (lt (sub (v I 2) (c 1)) (ln (v (L I) 4)))
          (.call f_cmp_Less_int [a (ix (v (L I) 4) (v I 2)), a (ix (v (L I) 4) (sub (v I 2) (c 1)))] 838
           (.ite (nt (v B 838))
            (.jump 0 [a (v I 0), a (v I 1), a (add (v I 2) (c 1)), a (v I 3), a (v (L I) 4)])
            (.jump 1 [a (v I 0), a (v I 1), a (v I 2), a (v I 3), a (v (L I) 4)])))))))
      (.jump 1 [a (v I 0), a (v I 1), a (v I 2), a (v I 3), a (v (L I) 4)])))
    (.ite (eq (v I 2) (v I 1))
     (.ret [a (k true), a (v (L I) 4)])
     (.ite (lt (sub (v I 1) (v I 0)) (c 50))
      (.ret [a (k false), a (v (L I) 4)])
      (.guard (le (c 0) (sub (v I 2) (c 1)))
       (.guard (lt (sub (v I 2) (c 1)) (ln (v (L I) 4)))
        (.guard (le (c 0) (v I 2))
         (.guard (lt (v I 2) (ln (v (L I) 4)))
          (.guard (le (c 0) (v I 2))
           (.guard (lt (v I 2) (ln (v (L I) 4)))
            (.guard (le (c 0) (sub (v I 2) (c 1)))
             (.guard (lt (sub (v I 2) (c 1)) (ln (st (v (L I) 4) (v I 2) (ix (v (L I) 4) (sub (v I 2) (c 1))))))
              (.join
               (.ite (ge (sub (v I 2) (v I 0)) (c 2))
                (.loop [a (v I 0), a (v I 1), a (v I 2), a (v I 3), a (sub (v I 2) (c 1)), a (st (st (v (L I) 4) (v I 2) (ix (v (L I) 4) (sub (v I 2) (c 1)))) (sub (v I 2) (c 1)) (ix (v (L I) 4) (v I 2)))]
                 (.ite (ge (v I 4) (c 1))
                  (.guard (le (c 0) (v I 4))
                   (.guard (lt (v I 4) (ln (v (L I) 5)))
                    (.guard (le (c 0) (sub (v I 4) (c 1)))
                     (.guard (lt (sub (v I 4) (c 1)) (ln (v (L I) 5)))
                      (.call f_cmp_Less_int [a (ix (v (L I) 5) (v I 4)), a (ix (v (L I) 5) (sub (v I 4) (c 1)))] 711
                       (.ite (nt (v B 711))
                        (.jump 1 [a (v I 0), a (v I 1), a (v I 2), a (v I 3), a (v (L I) 5)])
                        (.guard (le (c 0) (sub (v I 4) (c 1)))
                         (.guard (lt (sub (v I 4) (c 1)) (ln (v (L I) 5)))
                          (.guard (le (c 0) (v I 4))
                           (.guard (lt (v I 4) (ln (v (L I) 5)))
                            (.guard (le (c 0) (v I 4))
                             (.guard (lt (v I 4) (ln (v (L I) 5)))
                              (.guard (le (c 0) (sub (v I 4) (c 1)))
                               (.guard (lt (sub (v I 4) (c 1)) (ln (st (v (L I) 5) (v I 4) (ix (v (L I) 5) (sub (v I 4) (c 1))))))
                                (.jump 0 [a (v I 0), a (v I 1), a (v I 2), a (v I 3), a (sub (v I 4) (c 1)), a (st (st (v (L I) 5) (v I 4) (ix (v (L I) 5) (sub (v I 4) (c 1)))) (sub (v I 4) (c 1)) (ix (v (L I) 5) (v I 4)))])))))))))))))))
                  (.jump 1 [a (v I 0), a (v I 1), a (v I 2), a (v I 3), a (v (L I) 5)])))
                (.jump 0 [a (v I 0), a (v I 1), a (v I 2), a (v I 3), a (st (st (v (L I) 4) (v I 2) (ix (v (L I) 4) (sub (v I 2) (c 1)))) (sub (v I 2) (c 1)) (ix (v (L I) 4) (v I 2)))]))
               (.ite (ge (sub (v I 1) (v I 2)) (c 2))
                (.loop [a (v I 0), a (v I 1), a (v I 2), a (v I 3), a (add (v I 2) (c 1)), a (v (L I) 4)]
                 (.ite (lt (v I 4) (v I 1))
                  (.guard (le (c 0) (v I 4))
                   (.guard (lt (v I 4) (ln (v (L I) 5)))
                    (.guard (le (c 0) (sub (v I 4) (c 1)))
                     (.guard (lt (sub (v I 4) (c 1)) (ln (v (L I) 5)))
                      (.call f_cmp_Less_int [a (ix (v (L I) 5) (v I 4)), a (ix (v (L I) 5) (sub (v I 4) (c 1)))] 775
                       (.ite (nt (v B 775))
                        (.jump 1 [a (v I 0), a (v I 1), a (v I 2), a (v I 3), a (v (L I) 5)])
                        (.guard (le (c 0) (sub (v I 4) (c 1)))
                         (.guard (lt (sub (v I 4) (c 1)) (ln (v (L I) 5)))
                          (.guard (le (c 0) (v I 4))
                           (.guard (lt (v I 4) (ln (v (L I) 5)))
                            (.guard (le (c 0) (v I 4))
                             (.guard (lt (v I 4) (ln (v (L I) 5)))
                              (.guard (le (c 0) (sub (v I 4) (c 1)))
                               (.guard (lt (sub (v I 4) (c 1)) (ln (st (v (L I) 5) (v I 4) (ix (v (L I) 5) (sub (v I 4) (c 1))))))
                                (.jump 0 [a (v I 0), a (v I 1), a (v I 2), a (v I 3), a (add (v I 4) (c 1)), a (st (st (v (L I) 5) (v I 4) (ix (v (L I) 5) (sub (v I 4) (c 1)))) (sub (v I 4) (c 1)) (ix (v (L I) 5) (v I 4)))])))))))))))))))
                  (.jump 1 [a (v I 0), a (v I 1), a (v I 2), a (v I 3), a (v (L I) 5)])))
                (.jump 0 [a (v I 0), a (v I 1), a (v I 2), a (v I 3), a (v (L I) 4)]))))))))))))))
   (.jump 0 [a (v I 0), a (v I 1), a (v I 2), a (add (v I 3) (c 1)), a (v (L I) 4)]))
  (.ret [a (k false), a (v (L I) 4)]))
def tr_slices_partitionEqualOrdered_int : Tr := .guard (le (c 0) (v I 3))
 (.guard (lt (v I 3) (ln (v (L I) 0)))
  (.guard (le (c 0) (v I 1))
   (.guard (lt (v I 1) (ln (v (L I) 0)))
    (.guard (le (c 0) (v I 1))
     (.guard (lt (v I 1) (ln (v (L I) 0)))
      (.guard (le (c 0) (v I 3))
       (.guard (lt (v I 3) (ln (st (v (L I) 0) (v I 1) (ix (v (L I) 0) (v I 3)))))
        (.loop [a (v I 1), a (add (v I 1) (c 1)), a (sub (v I 2) (c 1)), a (st (st (v (L I) 0) (v I 1) (ix (v (L I) 0) (v I 3))) (v I 3) (ix (v (L I) 0) (v I 1)))]
         (.join
          (.loop [a (v I 0), a (v I 1), a (v I 2), a (v (L I) 3)]
           (.ite (le (v I 1) (v I 2))
            (.guard (le (c 0) (v I 0))
             (.guard (lt (v I 0) (ln (v (L I) 3)))
              (.guard (le (c 0) (v I 1))
               (.guard (lt (v I 1) (ln (v (L I) 3)))
                (.call f_cmp_Less_int [a (ix (v (L I) 3) (v I 0)), a (ix (v (L I) 3) (v I 1))] 773
                 (.ite (nt (v B 773))
                  (.jump 0 [a (v I 0), a (add (v I 1) (c 1)), a (v I 2), a (v (L I) 3)])
                  (.jump 1 [a (v I 0), a (v I 1), a (v I 2), a (v (L I) 3)])))))))
            (.jump 1 [a (v I 0), a (v I 1), a (v I 2), a (v (L I) 3)])))
          (.join
           (.loop [a (v I 0), a (v I 1), a (v I 2), a (v (L I) 3)]
            (.ite (le (v I 1) (v I 2))
             (.guard (le (c 0) (v I 0))
              (.guard (lt (v I 0) (ln (v (L I) 3)))
               (.guard (le (c 0) (v I 2))
                (.guard (lt (v I 2) (ln (v (L I) 3)))
                 (.call f_cmp_Less_int [a (ix (v (L I) 3) (v I 0)), a (ix (v (L I) 3) (v I 2))] 773
                  (.ite (v B 773)
                   (.jump 0 [a (v I 0), a (v I 1), a (sub (v I 2) (c 1)), a (v (L I) 3)])
                   (.jump 1 [a (v I 0), a (v I 1), a (v I 2), a (v (L I) 3)])))))))
             (.jump 1 [a (v I 0), a (v I 1), a (v I 2), a (v (L I) 3)])))
           (.ite (gt (v I 1) (v I 2))
            (.ret [a (v I 1), a (v (L I) 3)])
            (.guard (le (c 0) (v I 2))
             (.guard (lt (v I 2) (ln (v (L I) 3)))
              (.guard (le (c 0) (v I 1))
               (.guard (lt (v I 1) (ln (v (L I) 3)))
                (.guard (le (c 0) (v I 1))
                 (.guard (lt (v I 1) (ln (v (L I) 3)))
                  (.guard (le (c 0) (v I 2))
                   (.guard (lt (v I 2) (ln (st (v (L I) 3) (v I 1) (ix (v (L I) 3) (v I 2)))))
                    (.jump 0 [a (v I 0), a (add (v I 1) (c 1)), a (sub (v I 2) (c 1)), a (st (st (v (L I) 3) (v I 1) (ix (v (L I) 3) (v I 2))) (v I 2) (ix (v (L I) 3) (v I 1)))]))))))))))))))))))))
def tr_slices_partitionOrdered_int : Tr := .guard (le (c 0) (v I 3))
 (.guard (lt (v I 3) (ln (v (L I) 0)))
  (.guard (le (c 0) (v I 1))
   (.guard (lt (v I 1) (ln (v (L I) 0)))
    (.guard (le (c 0) (v I 1))
     (.guard (lt (v I 1) (ln (v (L I) 0)))
      (.guard (le (c 0) (v I 3))
       (.guard (lt (v I 3) (ln (st (v (L I) 0) (v I 1) (ix (v (L I) 0) (v I 3)))))
        (.join
         (.loop [a (v I 1), a (add (v I 1) (c 1)), a (sub (v I 2) (c 1)), a (st (st (v (L I) 0) (v I 1) (ix (v (L I) 0) (v I 3))) (v I 3) (ix (v (L I) 0) (v I 1)))]
          (.ite (le (v I 1) (v I 2))
           (.guard (le (c 0) (v I 1))
            (.guard (lt (v I 1) (ln (v (L I) 3)))
             (.guard (le (c 0) (v I 0))
              (.guard (lt (v I 0) (ln (v (L I) 3)))
               (.call f_cmp_Less_int [a (ix (v (L I) 3) (v I 1)), a (ix (v (L I) 3) (v I 0))] 773
                (.ite (v B 773)
                 (.jump 0 [a (v I 0), a (add (v I 1) (c 1)), a (v I 2), a (v (L I) 3)])
                 (.jump 1 [a (v I 0), a (v I 1), a (v I 2), a (v (L I) 3)])))))))
           (.jump 1 [a (v I 0), a (v I 1), a (v I 2), a (v (L I) 3)])))
         (.join
          (.loop [a (v I 0), a (v I 1), a (v I 2), a (v (L I) 3)]
           (.ite (le (v I 1) (v I 2))
            (.guard (le (c 0) (v I 2))
             (.guard (lt (v I 2) (ln (v (L I) 3)))
              (.guard (le (c 0) (v I 0))
               (.guard (lt (v I 0) (ln (v (L I) 3)))
                (.call f_cmp_Less_int [a (ix (v (L I) 3) (v I 2)), a (ix (v (L I) 3) (v I 0))] 773
                 (.ite (nt (v B 773))
                  (.jump 0 [a (v I 0), a (v I 1), a (sub (v I 2) (c 1)), a (v (L I) 3)])
                  (.jump 1 [a (v I 0), a (v I 1), a (v I 2), a (v (L I) 3)])))))))
            (.jump 1 [a (v I 0), a (v I 1), a (v I 2), a (v (L I) 3)])))
          (.ite (gt (v I 1) (v I 2))
           (.guard (le (c 0) (v I 0))
            (.guard (lt (v I 0) (ln (v (L I) 3)))
             (.guard (le (c 0) (v I 2))
              (.guard (lt (v I 2) (ln (v (L I) 3)))
               (.guard (le (c 0) (v I 2))
                (.guard (lt (v I 2) (ln (v (L I) 3)))
                 (.guard (le (c 0) (v I 0))
                  (.guard (lt (v I 0) (ln (st (v (L I) 3) (v I 2) (ix (v (L I) 3) (v I 0)))))
                   (.ret [a (v I 2), a (k true), a (st (st (v (L I) 3) (v I 2) (ix (v (L I) 3) (v I 0))) (v I 0) (ix (v (L I) 3) (v I 2)))])))))))))
           (.guard (le (c 0) (v I 2))
            (.guard (lt (v I 2) (ln (v (L I) 3)))
             (.guard (le (c 0) (v I 1))
              (.guard (lt (v I 1) (ln (v (L I) 3)))
               (.guard (le (c 0) (v I 1))
                (.guard (lt (v I 1) (ln (v (L I) 3)))
                 (.guard (le (c 0) (v I 2))
                  (.guard (lt (v I 2) (ln (st (v (L I) 3) (v I 1) (ix (v (L I) 3) (v I 2)))))
                   (.loop [a (v I 0), a (add (v I 1) (c 1)), a (sub (v I 2) (c 1)), a (st (st (v (L I) 3) (v I 1) (ix (v (L I) 3) (v I 2))) (v I 2) (ix (v (L I) 3) (v I 1)))]
                    (.join
                     (.loop [a (v I 0), a (v I 1), a (v I 2), a (v (L I) 3)]
                      (.ite (le (v I 1) (v I 2))
                       (.guard (le (c 0) (v I 1))
                        (.guard (lt (v I 1) (ln (v (L I) 3)))
                         (.guard (le (c 0) (v I 0))
                          (.guard (lt (v I 0) (ln (v (L I) 3)))
                           (.call f_cmp_Less_int [a (ix (v (L I) 3) (v I 1)), a (ix (v (L I) 3) (v I 0))] 773
                            (.ite (v B 773)
                             (.jump 0 [a (v I 0), a (add (v I 1) (c 1)), a (v I 2), a (v (L I) 3)])
                             (.jump 1 [a (v I 0), a (v I 1), a (v I 2), a (v (L I) 3)])))))))
                       (.jump 1 [a (v I 0), a (v I 1), a (v I 2), a (v (L I) 3)])))
                     (.join
                      (.loop [a (v I 0), a (v I 1), a (v I 2), a (v (L I) 3)]
                       (.ite (le (v I 1) (v I 2))
                        (.guard (le (c 0) (v I 2))
                         (.guard (lt (v I 2) (ln (v (L I) 3)))
                          (.guard (le (c 0) (v I 0))
                           (.guard (lt (v I 0) (ln (v (L I) 3)))
                            (.call f_cmp_Less_int [a (ix (v (L I) 3) (v I 2)), a (ix (v (L I) 3) (v I 0))] 773
                             (.ite (nt (v B 773))
                              (.jump 0 [a (v I 0), a (v I 1), a (sub (v I 2) (c 1)), a (v (L I) 3)])
                              (.jump 1 [a (v I 0), a (v I 1), a (v I 2), a (v (L I) 3)])))))))
                        (.jump 1 [a (v I 0), a (v I 1), a (v I 2), a (v (L I) 3)])))
                      (.ite (gt (v I 1) (v I 2))
                       (.guard (le (c 0) (v I 0))
                        (.guard (lt (v I 0) (ln (v (L I) 3)))
                         (.guard (le (c 0) (v I 2))
                          (.guard (lt (v I 2) (ln (v (L I) 3)))
                           (.guard (le (c 0) (v I 2))
                            (.guard (lt (v I 2) (ln (v (L I) 3)))
                             (.guard (le (c 0) (v I 0))
                              (.guard (lt (v I 0) (ln (st (v (L I) 3) (v I 2) (ix (v (L I) 3) (v I 0)))))
                               (.ret [a (v I 2), a (k false), a (st (st (v (L I) 3) (v I 2) (ix (v (L I) 3) (v I 0))) (v I 0) (ix (v (L I) 3) (v I 2)))])))))))))
                       (.guard (le (c 0) (v I 2))
                        (.guard (lt (v I 2) (ln (v (L I) 3)))
                         (.guard (le (c 0) (v I 1))
                          (.guard (lt (v I 1) (ln (v (L I) 3)))
                           (.guard (le (c 0) (v I 1))
                            (.guard (lt (v I 1) (ln (v (L I) 3)))
                             (.guard (le (c 0) (v I 2))
                              (.guard (lt (v I 2) (ln (st (v (L I) 3) (v I 1) (ix (v (L I) 3) (v I 2)))))
                               (.jump 0 [a (v I 0), a (add (v I 1) (c 1)), a (sub (v I 2) (c 1)), a (st (st (v (L I) 3) (v I 1) (ix (v (L I) 3) (v I 2))) (v I 2) (ix (v (L I) 3) (v I 1)))])))))))))))))))))))))))))))))))
def tr_slices_pdqsortOrdered_int : Tr := .loop [a (v I 1), a (v I 2), a (v I 3), a (k true), a (k true), a (v (L I) 0)]
 (.ite (le (sub (v I 1) (v I 0)) (c 12))
  (.call f_slices_insertionSortOrdered_int [a (v (L I) 5), a (v I 0), a (v I 1)] 583
   (.ret [a (v (L I) 583)]))
  (.ite (eq (v I 2) (c 0))
   (.call f_slices_heapSortOrdered_int [a (v (L I) 5), a (v I 0), a (v I 1)] 711
    (.ret [a (v (L I) 711)]))
   (.join
    (.ite (nt (v B 3))
     (.call f_slices_breakPatternsOrdered_int [a (v (L I) 5), a (v I 0), a (v I 1)] 839
      (.jump 0 [a (v I 0), a (v I 1), a (sub (v I 2) (c 1)), a (v B 3), a (v B 4), a (sub (v I 1) (v I 0)), a (v (L I) 839)]))
     (.jump 0 [a (v I 0), a (v I 1), a (v I 2), a (v B 3), a (v B 4), a (sub (v I 1) (v I 0)), a (v (L I) 5)]))
    (.call f_slices_choosePivotOrdered_int [a (v (L I) 6), a (v I 0), a (v I 1)] 200
     (.join
      (.ite (eq (v I 201) (c 2))
       (.call f_slices_reverseRangeOrdered_int [a (v (L I) 6), a (v I 0), a (v I 1)] 904
        (.jump 0 [a (v I 0), a (v I 1), a (v I 2), a (v B 3), a (v B 4), a (v I 5), a (sub (sub (v I 1) (c 1)) (sub (v I 200) (v I 0))), a (c 1), a (v (L I) 904)]))
       (.jump 0 [a (v I 0), a (v I 1), a (v I 2), a (v B 3), a (v B 4), a (v I 5), a (v I 200), a (v I 201), a (v (L I) 6)]))
      (.join
       (.ite (v B 3)
        (.ite (v B 4)
         (.ite (eq (v I 7) (c 1))
          (.call f_slices_partialInsertionSortOrdered_int [a (v (L I) 8), a (v I 0), a (v I 1)] 714
           (.ite (v B 714)
            (.ret [a (v (L I) 715)])
            (.jump 0 [a (v I 0), a (v I 1), a (v I 2), a (k true), a (k true), a (v I 5), a (v I 6), a (v (L I) 715)])))
          (.jump 0 [a (v I 0), a (v I 1), a (v I 2), a (k true), a (k true), a (v I 5), a (v I 6), a (v (L I) 8)]))
         (.jump 0 [a (v I 0), a (v I 1), a (v I 2), a (k true), a (k false), a (v I 5), a (v I 6), a (v (L I) 8)]))
        (.jump 0 [a (v I 0), a (v I 1), a (v I 2), a (k false), a (v B 4), a (v I 5), a (v I 6), a (v (L I) 8)]))
       (.join
        (.ite (gt (v I 0) (c 0))
         (.guard (le (c 0) (sub (v I 0) (c 1)))
          (.guard (lt (sub (v I 0) (c 1)) (ln (v (L I) 7)))
           (.guard (le (c 0) (v I 6))
            (.guard (lt (v I 6) (ln (v (L I) 7)))
             (.call f_cmp_Less_int [a (ix (v (L I) 7) (sub (v I 0) (c 1))), a (ix (v (L I) 7) (v I 6))] 777
              (.ite (nt (v B 777))
               (.call f_slices_partitionEqualOrdered_int [a (v (L I) 7), a (v I 0), a (v I 1), a (v I 6)] 1225
                (.jump 1 [a (v I 1225), a (v I 1), a (v I 2), a (v B 3), a (v B 4), a (v (L I) 1226)]))
               (.jump 0 [a (v I 0), a (v I 1), a (v I 2), a (v I 5), a (v I 6), a (v (L I) 7)])))))))
         (.jump 0 [a (v I 0), a (v I 1), a (v I 2), a (v I 5), a (v I 6), a (v (L I) 7)]))
        (.call f_slices_partitionOrdered_int [a (v (L I) 5), a (v I 0), a (v I 1), a (v I 4)] 263
         (.ite (lt (sub (v I 263) (v I 0)) (sub (v I 1) (v I 263)))
          (.call f_slices_pdqsortOrdered_int [a (v (L I) 265), a (v I 0), a (v I 263), a (v I 2)] 2183
           (.jump 0 [a (add (v I 263) (c 1)), a (v I 1), a (v I 2), a (ge (sub (v I 263) (v I 0)) (quo (v I 3) (c 8))), a (v B 264), a (v (L I) 2183)]))
          (.call f_slices_pdqsortOrdered_int [a (v (L I) 265), a (add (v I 263) (c 1)), a (v I 1), a (v I 2)] 2247
           (.jump 0 [a (v I 0), a (v I 263), a (v I 2), a (ge (sub (v I 1) (v I 263)) (quo (v I 3) (c 8))), a (v B 264), a (v (L I) 2247)])))))))))))
def tr_impl_touchedBy : Tr := .guard (le (c 0) (v I 2))
 (.guard (lt (v I 2) (ln (v (L TR) 1)))
  (.call f_impl_usedBy [a (f (ix (v (L TR) 1) (v I 2))), a (ln (v (L V3) 0))] 100896
   (.loop [a (s (s (ix (v (L TR) 1) (v I 2)))), a (ln (s (s (ix (v (L TR) 1) (v I 2))))), a (c 0), a (v (L V3) 0), a (v (L TR) 1), a (v (L I) 100896)]
    (.ite (lt (v I 2) (v I 1))
     (.guard (le (c 0) (v I 2))
      (.guard (lt (v I 2) (ln (v (L (L T4)) 0)))
       (.call f_impl_usedBy [a (ix (v (L (L T4)) 0) (v I 2)), a (ln (v (L V3) 3))] 584
        (.guard (le (ln (v (L I) 5)) (c 549755813888))
         (.guard (le (ln (v (L I) 584)) (c 549755813888))
          (.jump 0 [a (v (L (L T4)) 0), a (v I 1), a (add (v I 2) (c 1)), a (v (L V3) 3), a (v (L TR) 4), a (app (v (L I) 5) (v (L I) 584))]))))))
     (.guard (le (ln (v (L I) 5)) (c 549755813888))
      (.guard (le (ln (.o1 (.hnd 0) (v (L I) 5))) (c 549755813888))
       (.call f_impl_clone_int [a (.o1 (.hnd 1) (.o1 (.hnd 0) (v (L I) 5)))] 328
        (.ret [a (v (L I) 328)]))))))))
def tr_impl_rulesApart : Tr := .guard (le (c 0) (v I 2))
 (.guard (lt (v I 2) (ln (v (L TR) 1)))
  (.guard (le (c 0) (v I 3))
   (.guard (lt (v I 3) (ln (v (L TR) 1)))
    (.call f_impl_meets [a (f (s (ix (v (L TR) 1) (v I 2)))), a (f (s (ix (v (L TR) 1) (v I 3))))] 101152
     (.ite (nt (v B 101152))
      (.call f_impl_touchedBy [a (v (L V3) 0), a (v (L TR) 1), a (v I 3)] 101536
       (.call f_impl_meets [a (f (s (ix (v (L TR) 1) (v I 2)))), a (v (L I) 101536)] 101600
        (.ite (nt (v B 101600))
         (.call f_impl_touchedBy [a (v (L V3) 0), a (v (L TR) 1), a (v I 2)] 102048
          (.call f_impl_meets [a (f (s (ix (v (L TR) 1) (v I 3)))), a (v (L I) 102048)] 102112
           (.ret [a (nt (v B 102112))])))
         (.ret [a (k false)]))))
      (.ret [a (k false)]))))))
def tr_impl_wakersOf : Tr := .call f_impl_touchedBy [a (v (L V3) 0), a (v (L TR) 1), a (v I 2)] 100256
 (.loop [a (v I 2), a (v (L TR) 1), a (ln (v (L TR) 1)), a (c 0), a (v (L I) 100256), a (nl I)]
  (.ite (lt (v I 3) (v I 2))
   (.join
    (.guard (le (c 0) (v I 3))
     (.guard (lt (v I 3) (ln (v (L TR) 1)))
      (.ite (ne (v I 3) (v I 0))
       (.call f_impl_meets [a (f (s (ix (v (L TR) 1) (v I 3)))), a (v (L I) 4)] 904
        (.ite (v B 904)
         (.guard (le (ln (v (L I) 5)) (c 549755813888))
          (.guard (le (ln (one (v I 3))) (c 549755813888))
           (.jump 0 [a (v I 0), a (v (L TR) 1), a (v I 2), a (v I 3), a (v (L I) 4), a (app (v (L I) 5) (one (v I 3)))])))
         (.jump 0 [a (v I 0), a (v (L TR) 1), a (v I 2), a (v I 3), a (v (L I) 4), a (v (L I) 5)])))
       (.jump 0 [a (v I 0), a (v (L TR) 1), a (v I 2), a (v I 3), a (v (L I) 4), a (v (L I) 5)]))))
    (.jump 0 [a (v I 0), a (v (L TR) 1), a (v I 2), a (add (v I 3) (c 1)), a (v (L I) 4), a (v (L I) 5)]))
   (.call f_impl_clone_int [a (v (L I) 5)] 136
    (.ret [a (v (L I) 136)]))))
def tr_impl_stubbornOf : Tr := .loop [a (ln (v (L TR) 1)), a (c 0), a (v (L V3) 0), a (v (L TR) 1), a (nl (L B)), a (nl (L I))]
 (.ite (lt (v I 1) (v I 0))
  (.loop [a (v I 1), a (v I 0), a (v I 1), a (ln (v (L TR) 3)), a (c 0), a (v (L V3) 2), a (v (L TR) 3), a (v (L (L B)) 4), a (v (L (L I)) 5), a (nl B)]
   (.ite (lt (v I 4) (v I 3))
    (.call f_impl_rulesApart [a (v (L V3) 5), a (v (L TR) 6), a (v I 0), a (v I 4)] 463
     (.guard (le (ln (v (L B) 9)) (c 549755813888))
      (.guard (le (ln (one (v B 463))) (c 549755813888))
       (.jump 0 [a (v I 0), a (v I 1), a (v I 2), a (v I 3), a (add (v I 4) (c 1)), a (v (L V3) 5), a (v (L TR) 6), a (v (L (L B)) 7), a (v (L (L I)) 8), a (app (v (L B) 9) (one (v B 463)))]))))
    (.guard (le (ln (v (L (L B)) 7)) (c 549755813888))
     (.guard (le (ln (one (v (L B) 9))) (c 549755813888))
      (.call f_impl_wakersOf [a (v (L V3) 5), a (v (L TR) 6), a (v I 0)] 1231
       (.guard (le (ln (v (L (L I)) 8)) (c 549755813888))
        (.guard (le (ln (one (v (L I) 1231))) (c 549755813888))
         (.jump 1 [a (v I 1), a (add (v I 2) (c 1)), a (v (L V3) 5), a (v (L TR) 6), a (app (v (L (L B)) 7) (one (v (L B) 9))), a (app (v (L (L I)) 8) (one (v (L I) 1231)))]))))))))
  (.ret [a (pr (v (L (L B)) 4) (v (L (L I)) 5))]))
def tr_impl_held : Tr := .ret [a (.o2 (.mx .i64) (c (-9999)) (.o2 (.mn .i64) (c 9999) (v I 0)))]
def tr_impl_bit : Tr := .ite (v B 0)
 (.ret [a (c 1)])
 (.ret [a (c 0)])
def tr_impl_do : Tr := .ite (eq (v I 0) (c 2))
 (.call f_impl_held [a (add (v I 1) (v I 2))] 100448
  (.ret [a (v I 100448)]))
 (.ite (eq (v I 0) (c 3))
  (.call f_impl_held [a (sub (v I 1) (v I 2))] 100576
   (.ret [a (v I 100576)]))
  (.ite (eq (v I 0) (c 4))
   (.call f_impl_held [a (mul (v I 1) (v I 2))] 100704
    (.ret [a (v I 100704)]))
   (.ite (eq (v I 0) (c 5))
    (.call f_impl_bit [a (lt (v I 1) (v I 2))] 100832
     (.ret [a (v I 100832)]))
    (.ite (eq (v I 0) (c 6))
     (.call f_impl_bit [a (eq (v I 1) (v I 2))] 100960
      (.ret [a (v I 100960)]))
     (.ite (eq (v I 0) (c 7))
      (.ret [a (sub (c 1) (v I 1))])
      (.ite (eq (v I 0) (c 8))
       (.ret [a (.o2 (.mn .i64) (v I 1) (v I 2))])
       (.ret [a (.o2 (.mx .i64) (v I 1) (v I 2))])))))))
def tr_impl_eval : Tr := .guard (le (c 0) (ln (v (L T4) 0)))
 (.guard (le (ln (v (L T4) 0)) (c 549755813888))
  (.loop [a (v (L I) 1), a (v (L T4) 0), a (ln (v (L T4) 0)), a (c 0), a (rep (ln (v (L T4) 0)) (z I))]
   (.ite (lt (v I 3) (v I 2))
    (.join
     (.guard (le (c 0) (v I 3))
      (.guard (lt (v I 3) (ln (v (L T4) 1)))
       (.ite (eq (f (ix (v (L T4) 1) (v I 3))) (c 0))
        (.guard (le (c 0) (v I 3))
         (.guard (lt (v I 3) (ln (v (L I) 4)))
          (.jump 0 [a (v (L I) 0), a (v (L T4) 1), a (v I 2), a (v I 3), a (st (v (L I) 4) (v I 3) (f (s (ix (v (L T4) 1) (v I 3)))))])))
        (.ite (eq (f (ix (v (L T4) 1) (v I 3))) (c 1))
         (.guard (le (c 0) (f (s (ix (v (L T4) 1) (v I 3)))))
          (.guard (lt (f (s (ix (v (L T4) 1) (v I 3)))) (ln (v (L I) 0)))
           (.guard (le (c 0) (v I 3))
            (.guard (lt (v I 3) (ln (v (L I) 4)))
             (.jump 0 [a (v (L I) 0), a (v (L T4) 1), a (v I 2), a (v I 3), a (st (v (L I) 4) (v I 3) (ix (v (L I) 0) (f (s (ix (v (L T4) 1) (v I 3))))))])))))
         (.guard (le (c 0) (f (s (s (ix (v (L T4) 1) (v I 3))))))
          (.guard (lt (f (s (s (ix (v (L T4) 1) (v I 3))))) (ln (v (L I) 4)))
           (.guard (le (c 0) (s (s (s (ix (v (L T4) 1) (v I 3))))))
            (.guard (lt (s (s (s (ix (v (L T4) 1) (v I 3))))) (ln (v (L I) 4)))
             (.call f_impl_do [a (f (ix (v (L T4) 1) (v I 3))), a (ix (v (L I) 4) (f (s (s (ix (v (L T4) 1) (v I 3)))))), a (ix (v (L I) 4) (s (s (s (ix (v (L T4) 1) (v I 3))))))] 1734
              (.guard (le (c 0) (v I 3))
               (.guard (lt (v I 3) (ln (v (L I) 4)))
                (.jump 0 [a (v (L I) 0), a (v (L T4) 1), a (v I 2), a (v I 3), a (st (v (L I) 4) (v I 3) (v I 1734))]))))))))))))
     (.jump 0 [a (v (L I) 0), a (v (L T4) 1), a (v I 2), a (add (v I 3) (c 1)), a (v (L I) 4)]))
    (.guard (le (c 0) (sub (ln (v (L I) 4)) (c 1)))
     (.guard (lt (sub (ln (v (L I) 4)) (c 1)) (ln (v (L I) 4)))
      (.ret [a (ix (v (L I) 4) (sub (ln (v (L I) 4)) (c 1)))]))))))
def tr_impl_use : Tr := .guard (le (c 0) (v I 3))
 (.guard (lt (v I 3) (ln (v (L TR) 1)))
  (.call f_impl_eval [a (f (ix (v (L TR) 1) (v I 3))), a (v (L I) 2)] 100832
   (.ite (eq (v I 100832) (c 0))
    (.ret [a (nl I), a (k false)])
    (.call f_impl_clone_int [a (v (L I) 2)] 101024
     (.loop [a (v (L I) 2), a (f (s (ix (v (L TR) 1) (v I 3)))), a (ln (f (s (ix (v (L TR) 1) (v I 3))))), a (c 0), a (v (L V3) 0), a (v (L TR) 1), a (f (ix (v (L TR) 1) (v I 3))), a (f (s (ix (v (L TR) 1) (v I 3)))), a (s (s (ix (v (L TR) 1) (v I 3)))), a (v (L I) 101024)]
      (.ite (lt (v I 3) (v I 2))
       (.guard (le (c 0) (v I 3))
        (.guard (lt (v I 3) (ln (v (L I) 1)))
         (.guard (le (c 0) (v I 3))
          (.guard (lt (v I 3) (ln (v (L (L T4)) 8)))
           (.call f_impl_eval [a (ix (v (L (L T4)) 8) (v I 3)), a (v (L I) 0)] 909
            (.guard (le (c 0) (ix (v (L I) 1) (v I 3)))
             (.guard (lt (ix (v (L I) 1) (v I 3)) (ln (v (L I) 9)))
              (.jump 0 [a (v (L I) 0), a (v (L I) 1), a (v I 2), a (add (v I 3) (c 1)), a (v (L V3) 4), a (v (L TR) 5), a (v (L T4) 6), a (v (L I) 7), a (v (L (L T4)) 8), a (st (v (L I) 9) (ix (v (L I) 1) (v I 3)) (v I 909))]))))))))
       (.call f_impl_inRange [a (v (L V3) 4), a (v (L TR) 5), a (v (L I) 9)] 205
        (.ite (nt (v B 205))
         (.ret [a (nl I), a (k false)])
         (.ret [a (v (L I) 9), a (k true)])))))))))
def tr_impl_usableIn : Tr := .loop [a (v (L I) 2), a (ln (v (L TR) 1)), a (c 0), a (v (L V3) 0), a (v (L TR) 1), a (nl I)]
 (.ite (lt (v I 2) (v I 1))
  (.join
   (.call f_impl_use [a (v (L V3) 3), a (v (L TR) 4), a (v (L I) 0), a (v I 2)] 392
    (.ite (v B 393)
     (.guard (le (ln (v (L I) 5)) (c 549755813888))
      (.guard (le (ln (one (v I 2))) (c 549755813888))
       (.jump 0 [a (v (L I) 0), a (v I 1), a (v I 2), a (v (L V3) 3), a (v (L TR) 4), a (app (v (L I) 5) (one (v I 2)))])))
     (.jump 0 [a (v (L I) 0), a (v I 1), a (v I 2), a (v (L V3) 3), a (v (L TR) 4), a (v (L I) 5)])))
   (.jump 0 [a (v (L I) 0), a (v I 1), a (add (v I 2) (c 1)), a (v (L V3) 3), a (v (L TR) 4), a (v (L I) 5)]))
  (.call f_impl_clone_int [a (v (L I) 5)] 136
   (.ret [a (v (L I) 136)])))
def tr_impl_marks : Tr := .guard (le (c 0) (v I 1))
 (.guard (le (v I 1) (c 549755813888))
  (.loop [a (v (L I) 0), a (ln (v (L I) 0)), a (c 0), a (rep (v I 1) (z B))]
   (.ite (lt (v I 2) (v I 1))
    (.guard (le (c 0) (v I 2))
     (.guard (lt (v I 2) (ln (v (L I) 0)))
      (.guard (le (c 0) (ix (v (L I) 0) (v I 2)))
       (.guard (lt (ix (v (L I) 0) (v I 2)) (ln (v (L B) 3)))
        (.jump 0 [a (v (L I) 0), a (v I 1), a (add (v I 2) (c 1)), a (st (v (L B) 3) (ix (v (L I) 0) (v I 2)) (k true))])))))
    (.ret [a (v (L B) 3)]))))
def tr_impl_stubborn_from : Tr := .guard (le (c 0) (ln (v (L B) 1)))
 (.guard (le (ln (v (L B) 1)) (c 549755813888))
  (.guard (le (c 0) (v I 2))
   (.guard (lt (v I 2) (ln (rep (ln (v (L B) 1)) (z B))))
    (.loop [a (v (L B) 1), a (f (v (P (L (L B)) (L (L I))) 0)), a (s (v (P (L (L B)) (L (L I))) 0)), a (st (rep (ln (v (L B) 1)) (z B)) (v I 2) (k true)), a (one (v I 2))]
     (.ite (gt (ln (v (L I) 4)) (c 0))
      (.guard (lt (c 0) (ln (v (L I) 4)))
       (.guard (le (c 1) (ln (v (L I) 4)))
        (.loop [a (v (L B) 0), a (ix (v (L I) 4) (c 0)), a (ln (v (L B) 0)), a (c 0), a (v (L (L B)) 1), a (v (L (L I)) 2), a (v (L B) 3), a (drop (v (L I) 4) (c 1))]
         (.ite (lt (v I 3) (v I 2))
          (.join
           (.join
            (.guard (le (c 0) (v I 1))
             (.guard (lt (v I 1) (ln (v (L B) 0)))
              (.ite (ix (v (L B) 0) (v I 1))
               (.guard (le (c 0) (v I 1))
                (.guard (lt (v I 1) (ln (v (L (L B)) 4)))
                 (.guard (le (c 0) (v I 3))
                  (.guard (lt (v I 3) (ln (ix (v (L (L B)) 4) (v I 1))))
                   (.ite (nt (ix (ix (v (L (L B)) 4) (v I 1)) (v I 3)))
                    (.jump 0 [a (v (L B) 0), a (v I 1), a (v I 3), a (k true), a (v I 2), a (v I 3), a (v (L (L B)) 4), a (v (L (L I)) 5), a (v (L B) 6), a (v (L I) 7)])
                    (.guard (le (c 0) (v I 1))
                     (.guard (lt (v I 1) (ln (v (L B) 0)))
                      (.ite (nt (ix (v (L B) 0) (v I 1)))
                       (.guard (le (c 0) (v I 1))
                        (.guard (lt (v I 1) (ln (v (L (L I)) 5)))
                         (.call f_slices_Contains_Sint_int [a (ix (v (L (L I)) 5) (v I 1)), a (v I 3)] 2251
                          (.jump 0 [a (v (L B) 0), a (v I 1), a (v I 3), a (v B 2251), a (v I 2), a (v I 3), a (v (L (L B)) 4), a (v (L (L I)) 5), a (v (L B) 6), a (v (L I) 7)]))))
                       (.jump 0 [a (v (L B) 0), a (v I 1), a (v I 3), a (k false), a (v I 2), a (v I 3), a (v (L (L B)) 4), a (v (L (L I)) 5), a (v (L B) 6), a (v (L I) 7)])))))))))
               (.guard (le (c 0) (v I 1))
                (.guard (lt (v I 1) (ln (v (L B) 0)))
                 (.ite (nt (ix (v (L B) 0) (v I 1)))
                  (.guard (le (c 0) (v I 1))
                   (.guard (lt (v I 1) (ln (v (L (L I)) 5)))
                    (.call f_slices_Contains_Sint_int [a (ix (v (L (L I)) 5) (v I 1)), a (v I 3)] 2251
                     (.jump 0 [a (v (L B) 0), a (v I 1), a (v I 3), a (v B 2251), a (v I 2), a (v I 3), a (v (L (L B)) 4), a (v (L (L I)) 5), a (v (L B) 6), a (v (L I) 7)]))))
                  (.jump 0 [a (v (L B) 0), a (v I 1), a (v I 3), a (k false), a (v I 2), a (v I 3), a (v (L (L B)) 4), a (v (L (L I)) 5), a (v (L B) 6), a (v (L I) 7)])))))))
            (.ite (v B 3)
             (.guard (le (c 0) (v I 2))
              (.guard (lt (v I 2) (ln (v (L B) 8)))
               (.ite (nt (ix (v (L B) 8) (v I 2)))
                (.guard (le (c 0) (v I 2))
                 (.guard (lt (v I 2) (ln (v (L B) 8)))
                  (.guard (le (ln (v (L I) 9)) (c 549755813888))
                   (.guard (le (ln (one (v I 2))) (c 549755813888))
                    (.jump 0 [a (v (L B) 0), a (v I 1), a (v I 4), a (v I 5), a (v (L (L B)) 6), a (v (L (L I)) 7), a (st (v (L B) 8) (v I 2) (k true)), a (app (v (L I) 9) (one (v I 2)))])))))
                (.jump 0 [a (v (L B) 0), a (v I 1), a (v I 4), a (v I 5), a (v (L (L B)) 6), a (v (L (L I)) 7), a (v (L B) 8), a (v (L I) 9)]))))
             (.jump 0 [a (v (L B) 0), a (v I 1), a (v I 4), a (v I 5), a (v (L (L B)) 6), a (v (L (L I)) 7), a (v (L B) 8), a (v (L I) 9)])))
           (.jump 0 [a (v (L B) 0), a (v I 1), a (v I 2), a (add (v I 3) (c 1)), a (v (L (L B)) 4), a (v (L (L I)) 5), a (v (L B) 6), a (v (L I) 7)]))
          (.jump 1 [a (v (L B) 0), a (v (L (L B)) 4), a (v (L (L I)) 5), a (v (L B) 6), a (v (L I) 7)])))))
      (.ret [a (v (L B) 3), a (pr (v (L (L B)) 1) (v (L (L I)) 2))]))))))
def tr_impl_listOf : Tr := .loop [a (v (L B) 0), a (ln (v (L B) 0)), a (c 0), a (nl I)]
 (.ite (lt (v I 2) (v I 1))
  (.join
   (.guard (le (c 0) (v I 2))
    (.guard (lt (v I 2) (ln (v (L B) 0)))
     (.ite (ix (v (L B) 0) (v I 2))
      (.guard (le (ln (v (L I) 3)) (c 549755813888))
       (.guard (le (ln (one (v I 2))) (c 549755813888))
        (.jump 0 [a (v (L B) 0), a (v I 1), a (v I 2), a (app (v (L I) 3) (one (v I 2)))])))
      (.jump 0 [a (v (L B) 0), a (v I 1), a (v I 2), a (v (L I) 3)]))))
   (.jump 0 [a (v (L B) 0), a (v I 1), a (add (v I 2) (c 1)), a (v (L I) 3)]))
  (.call f_impl_clone_int [a (v (L I) 3)] 133
   (.ret [a (v (L I) 133)])))
def tr_spec_l2Var : Tr := .call f_spec_l1In [a (v I 0), a (c (-9999)), a (c 9999)] 100256
 (.ite (v B 100256)
  (.call f_spec_l1In [a (v I 1), a (v I 0), a (c 9999)] 100640
   (.ite (v B 100640)
    (.ite (lt (sub (v I 1) (v I 0)) (c 20))
     (.call f_spec_l1In [a (v I 2), a (v I 0), a (v I 1)] 101728
      (.ret [a (v B 101728)]))
     (.ret [a (k false)]))
    (.ret [a (k false)])))
  (.ret [a (k false)]))
def tr_spec_l2Is : Tr := .call f_spec_KindsOf [a (v (L T4) 0), a (v I 1)] 100192
 (.ite (gt (ln (v (L I) 100192)) (c 0))
  (.guard (le (c 0) (sub (ln (v (L I) 100192)) (c 1)))
   (.guard (lt (sub (ln (v (L I) 100192)) (c 1)) (ln (v (L I) 100192)))
    (.ret [a (eq (ix (v (L I) 100192) (sub (ln (v (L I) 100192)) (c 1))) (v I 2))])))
  (.ret [a (k false)]))
def tr_spec_l2Rule : Tr := .call f_spec_l2Is [a (v (L T4) 0), a (v I 3), a (c 2)] 100320
 (.ite (nt (v B 100320))
  (.ret [a (k false)])
  (.ite (ne (ln (v (L I) 1)) (ln (v (L (L T4)) 2)))
   (.ret [a (k false)])
   (.ite (gt (ln (v (L I) 1)) (v I 3))
    (.ret [a (k false)])
    (.loop [a (v I 3), a (c 0), a (v (L T4) 0), a (v (L I) 1), a (v (L (L T4)) 2)]
     (.ite (lt (v I 1) (ln (v (L I) 3)))
      (.join
       (.guard (le (c 0) (v I 1))
        (.guard (lt (v I 1) (ln (v (L I) 3)))
         (.call f_spec_l1In [a (ix (v (L I) 3) (v I 1)), a (c 0), a (sub (v I 0) (c 1))] 774
          (.ite (nt (v B 774))
           (.ret [a (k false)])
           (.ite (gt (v I 1) (c 0))
            (.guard (le (c 0) (v I 1))
             (.guard (lt (v I 1) (ln (v (L I) 3)))
              (.guard (le (c 0) (sub (v I 1) (c 1)))
               (.guard (lt (sub (v I 1) (c 1)) (ln (v (L I) 3)))
                (.ite (le (ix (v (L I) 3) (v I 1)) (ix (v (L I) 3) (sub (v I 1) (c 1))))
                 (.ret [a (k false)])
                 (.guard (le (c 0) (v I 1))
                  (.guard (lt (v I 1) (ln (v (L (L T4)) 4)))
                   (.call f_spec_l2Is [a (ix (v (L (L T4)) 4) (v I 1)), a (v I 0), a (c 1)] 2502
                    (.ite (nt (v B 2502))
                     (.ret [a (k false)])
                     (.jump 0 [a (v I 0), a (v I 1), a (v (L T4) 2), a (v (L I) 3), a (v (L (L T4)) 4)]))))))))))
            (.guard (le (c 0) (v I 1))
             (.guard (lt (v I 1) (ln (v (L (L T4)) 4)))
              (.call f_spec_l2Is [a (ix (v (L (L T4)) 4) (v I 1)), a (v I 0), a (c 1)] 2502
               (.ite (nt (v B 2502))
                (.ret [a (k false)])
                (.jump 0 [a (v I 0), a (v I 1), a (v (L T4) 2), a (v (L I) 3), a (v (L (L T4)) 4)]))))))))))
       (.jump 0 [a (v I 0), a (add (v I 1) (c 1)), a (v (L T4) 2), a (v (L I) 3), a (v (L (L T4)) 4)]))
      (.ret [a (k true)]))))))
def tr_spec_SystemValid : Tr := .call f_spec_l1In [a (ln (v (L V3) 0)), a (c 1), a (c 5)] 100320
 (.ite (nt (v B 100320))
  (.ret [a (k false)])
  (.ite (gt (ln (v (L TR) 1)) (c 8))
   (.ret [a (k false)])
   (.loop [a (c 1), a (c 0), a (v (L V3) 0), a (v (L TR) 1)]
    (.ite (lt (v I 1) (ln (v (L V3) 2)))
     (.guard (le (c 0) (v I 1))
      (.guard (lt (v I 1) (ln (v (L V3) 2)))
       (.call f_spec_l2Var [a (f (ix (v (L V3) 2) (v I 1))), a (f (s (ix (v (L V3) 2) (v I 1)))), a (s (s (ix (v (L V3) 2) (v I 1))))] 645
        (.ite (nt (v B 645))
         (.ret [a (k false)])
         (.guard (le (c 0) (v I 1))
          (.guard (lt (v I 1) (ln (v (L V3) 2)))
           (.guard (le (c 0) (v I 1))
            (.guard (lt (v I 1) (ln (v (L V3) 2)))
             (.jump 0 [a (mul (v I 0) (add (sub (f (s (ix (v (L V3) 2) (v I 1)))) (f (ix (v (L V3) 2) (v I 1)))) (c 1))), a (add (v I 1) (c 1)), a (v (L V3) 2), a (v (L TR) 3)])))))))))
     (.loop [a (v I 0), a (c 0), a (v (L V3) 2), a (v (L TR) 3)]
      (.ite (lt (v I 1) (ln (v (L TR) 3)))
       (.guard (le (c 0) (v I 1))
        (.guard (lt (v I 1) (ln (v (L TR) 3)))
         (.call f_spec_l2Rule [a (f (ix (v (L TR) 3) (v I 1))), a (f (s (ix (v (L TR) 3) (v I 1)))), a (s (s (ix (v (L TR) 3) (v I 1)))), a (ln (v (L V3) 2))] 837
          (.ite (nt (v B 837))
           (.ret [a (k false)])
           (.jump 0 [a (v I 0), a (add (v I 1) (c 1)), a (v (L V3) 2), a (v (L TR) 3)])))))
       (.ret [a (le (v I 0) (c 400))])))))))
def tr_spec_l2In : Tr := .ite (ne (ln (v (L I) 2)) (ln (v (L V3) 0)))
 (.ret [a (k false)])
 (.loop [a (v (L I) 2), a (c 0), a (v (L V3) 0), a (v (L TR) 1)]
  (.ite (lt (v I 1) (ln (v (L I) 0)))
   (.guard (le (c 0) (v I 1))
    (.guard (lt (v I 1) (ln (v (L I) 0)))
     (.guard (le (c 0) (v I 1))
      (.guard (lt (v I 1) (ln (v (L V3) 2)))
       (.guard (le (c 0) (v I 1))
        (.guard (lt (v I 1) (ln (v (L V3) 2)))
         (.call f_spec_l1In [a (ix (v (L I) 0) (v I 1)), a (f (ix (v (L V3) 2) (v I 1))), a (f (s (ix (v (L V3) 2) (v I 1))))] 1285
          (.ite (nt (v B 1285))
           (.ret [a (k false)])
           (.jump 0 [a (v (L I) 0), a (add (v I 1) (c 1)), a (v (L V3) 2), a (v (L TR) 3)])))))))))
   (.ret [a (k true)])))
def tr_spec_l1Held : Tr := .ite (gt (v I 0) (c 9999))
 (.ret [a (c 9999)])
 (.ite (lt (v I 0) (c (-9999)))
  (.ret [a (c (-9999))])
  (.ret [a (v I 0)]))
def tr_spec_l1Truth : Tr := .ite (v B 0)
 (.ret [a (c 1)])
 (.ret [a (c 0)])
def tr_spec_l1Do : Tr := .ite (eq (v I 0) (c 2))
 (.call f_spec_l1Held [a (add (v I 1) (v I 2))] 100384
  (.ret [a (v I 100384)]))
 (.ite (eq (v I 0) (c 3))
  (.call f_spec_l1Held [a (sub (v I 1) (v I 2))] 100512
   (.ret [a (v I 100512)]))
  (.ite (eq (v I 0) (c 4))
   (.call f_spec_l1Held [a (mul (v I 1) (v I 2))] 100640
    (.ret [a (v I 100640)]))
   (.ite (eq (v I 0) (c 5))
    (.call f_spec_l1Truth [a (lt (v I 1) (v I 2))] 100768
     (.ret [a (v I 100768)]))
    (.ite (eq (v I 0) (c 6))
     (.call f_spec_l1Truth [a (eq (v I 1) (v I 2))] 100896
      (.ret [a (v I 100896)]))
     (.ite (eq (v I 0) (c 7))
      (.ret [a (sub (c 1) (v I 1))])
      (.ite (eq (v I 0) (c 8))
       (.ret [a (mul (v I 1) (v I 2))])
       (.call f_spec_l1Truth [a (gt (add (v I 1) (v I 2)) (c 0))] 101216
        (.ret [a (v I 101216)]))))))))
end Go.Proofs.YthapopegchnhlabGreat
namespace Go.Proofs.YthapopegchnhlabGreat
open Go Go.Sm Go.Sm.Q
def tr_spec_l1Values : Tr := .loop [a (v (L T4) 0), a (v (L I) 1), a (c 0), a (nl I)]
 (.ite (lt (v I 2) (ln (v (L T4) 0)))
  (.join
   (.guard (le (c 0) (v I 2))
    (.guard (lt (v I 2) (ln (v (L T4) 0)))
     (.ite (eq (f (ix (v (L T4) 0) (v I 2))) (c 0))
      (.guard (le (ln (v (L I) 3)) (c 549755813888))
       (.guard (le (ln (one (f (s (ix (v (L T4) 0) (v I 2)))))) (c 549755813888))
        (.jump 0 [a (v (L T4) 0), a (v (L I) 1), a (v I 2), a (app (v (L I) 3) (one (f (s (ix (v (L T4) 0) (v I 2))))))])))
      (.ite (eq (f (ix (v (L T4) 0) (v I 2))) (c 1))
       (.guard (le (c 0) (f (s (ix (v (L T4) 0) (v I 2)))))
        (.guard (lt (f (s (ix (v (L T4) 0) (v I 2)))) (ln (v (L I) 1)))
         (.guard (le (ln (v (L I) 3)) (c 549755813888))
          (.guard (le (ln (one (ix (v (L I) 1) (f (s (ix (v (L T4) 0) (v I 2))))))) (c 549755813888))
           (.jump 0 [a (v (L T4) 0), a (v (L I) 1), a (v I 2), a (app (v (L I) 3) (one (ix (v (L I) 1) (f (s (ix (v (L T4) 0) (v I 2)))))))])))))
       (.guard (le (c 0) (f (s (s (ix (v (L T4) 0) (v I 2))))))
        (.guard (lt (f (s (s (ix (v (L T4) 0) (v I 2))))) (ln (v (L I) 3)))
         (.guard (le (c 0) (s (s (s (ix (v (L T4) 0) (v I 2))))))
          (.guard (lt (s (s (s (ix (v (L T4) 0) (v I 2))))) (ln (v (L I) 3)))
           (.call f_spec_l1Do [a (f (ix (v (L T4) 0) (v I 2))), a (ix (v (L I) 3) (f (s (s (ix (v (L T4) 0) (v I 2)))))), a (ix (v (L I) 3) (s (s (s (ix (v (L T4) 0) (v I 2))))))] 1861
            (.guard (le (ln (v (L I) 3)) (c 549755813888))
             (.guard (le (ln (one (v I 1861))) (c 549755813888))
              (.jump 0 [a (v (L T4) 0), a (v (L I) 1), a (v I 2), a (app (v (L I) 3) (one (v I 1861)))]))))))))))))
   (.jump 0 [a (v (L T4) 0), a (v (L I) 1), a (add (v I 2) (c 1)), a (v (L I) 3)]))
  (.ret [a (v (L I) 3)]))
def tr_spec_l2Last : Tr := .call f_spec_l1Values [a (v (L T4) 0), a (v (L I) 1)] 100192
 (.guard (le (c 0) (sub (ln (v (L T4) 0)) (c 1)))
  (.guard (lt (sub (ln (v (L T4) 0)) (c 1)) (ln (v (L I) 100192)))
   (.ret [a (ix (v (L I) 100192) (sub (ln (v (L T4) 0)) (c 1)))])))
def tr_spec_l2Use : Tr := .guard (le (c 0) (v I 3))
 (.guard (lt (v I 3) (ln (v (L TR) 1)))
  (.call f_spec_l2Last [a (f (ix (v (L TR) 1) (v I 3))), a (v (L I) 2)] 100768
   (.ite (eq (v I 100768) (c 0))
    (.ret [a (nl I)])
    (.loop [a (v (L I) 2), a (c 0), a (v (L V3) 0), a (v (L TR) 1), a (f (ix (v (L TR) 1) (v I 3))), a (f (s (ix (v (L TR) 1) (v I 3)))), a (s (s (ix (v (L TR) 1) (v I 3)))), a (nl I)]
     (.ite (lt (v I 1) (ln (v (L I) 0)))
      (.guard (le (c 0) (v I 1))
       (.guard (lt (v I 1) (ln (v (L I) 0)))
        (.guard (le (ln (v (L I) 7)) (c 549755813888))
         (.guard (le (ln (one (ix (v (L I) 0) (v I 1)))) (c 549755813888))
          (.jump 0 [a (v (L I) 0), a (add (v I 1) (c 1)), a (v (L V3) 2), a (v (L TR) 3), a (v (L T4) 4), a (v (L I) 5), a (v (L (L T4)) 6), a (app (v (L I) 7) (one (ix (v (L I) 0) (v I 1))))])))))
      (.loop [a (v (L I) 0), a (c 0), a (v (L V3) 2), a (v (L TR) 3), a (v (L T4) 4), a (v (L I) 5), a (v (L (L T4)) 6), a (v (L I) 7)]
       (.ite (lt (v I 1) (ln (v (L I) 5)))
        (.guard (le (c 0) (v I 1))
         (.guard (lt (v I 1) (ln (v (L I) 5)))
          (.guard (le (c 0) (v I 1))
           (.guard (lt (v I 1) (ln (v (L (L T4)) 6)))
            (.call f_spec_l2Last [a (ix (v (L (L T4)) 6) (v I 1)), a (v (L I) 0)] 1099
             (.guard (le (c 0) (ix (v (L I) 5) (v I 1)))
              (.guard (lt (ix (v (L I) 5) (v I 1)) (ln (v (L I) 7)))
               (.jump 0 [a (v (L I) 0), a (add (v I 1) (c 1)), a (v (L V3) 2), a (v (L TR) 3), a (v (L T4) 4), a (v (L I) 5), a (v (L (L T4)) 6), a (st (v (L I) 7) (ix (v (L I) 5) (v I 1)) (v I 1099))]))))))))
        (.call f_spec_l2In [a (v (L V3) 2), a (v (L TR) 3), a (v (L I) 7)] 459
         (.ite (nt (v B 459))
          (.ret [a (nl I)])
          (.ret [a (v (L I) 7)]))))))))))
def tr_spec_l1Needed : Tr := .loop [a (v (L T4) 0), a (c 0), a (nl B)]
 (.ite (lt (v I 1) (ln (v (L T4) 0)))
  (.guard (le (ln (v (L B) 2)) (c 549755813888))
   (.guard (le (ln (one (eq (v I 1) (sub (ln (v (L T4) 0)) (c 1))))) (c 549755813888))
    (.jump 0 [a (v (L T4) 0), a (add (v I 1) (c 1)), a (app (v (L B) 2) (one (eq (v I 1) (sub (ln (v (L T4) 0)) (c 1)))))])))
  (.loop [a (v (L T4) 0), a (sub (ln (v (L T4) 0)) (c 1)), a (v (L B) 2)]
   (.ite (ge (v I 1) (c 0))
    (.join
     (.guard (le (c 0) (v I 1))
      (.guard (lt (v I 1) (ln (v (L B) 2)))
       (.ite (ix (v (L B) 2) (v I 1))
        (.guard (le (c 0) (v I 1))
         (.guard (lt (v I 1) (ln (v (L T4) 0)))
          (.ite (ge (f (ix (v (L T4) 0) (v I 1))) (c 2))
           (.guard (le (c 0) (v I 1))
            (.guard (lt (v I 1) (ln (v (L T4) 0)))
             (.guard (le (c 0) (f (s (s (ix (v (L T4) 0) (v I 1))))))
              (.guard (lt (f (s (s (ix (v (L T4) 0) (v I 1))))) (ln (v (L B) 2)))
               (.guard (le (c 0) (v I 1))
                (.guard (lt (v I 1) (ln (v (L T4) 0)))
                 (.guard (le (c 0) (s (s (s (ix (v (L T4) 0) (v I 1))))))
                  (.guard (lt (s (s (s (ix (v (L T4) 0) (v I 1))))) (ln (st (v (L B) 2) (f (s (s (ix (v (L T4) 0) (v I 1))))) (k true))))
                   (.jump 0 [a (v (L T4) 0), a (v I 1), a (st (st (v (L B) 2) (f (s (s (ix (v (L T4) 0) (v I 1))))) (k true)) (s (s (s (ix (v (L T4) 0) (v I 1))))) (k true))])))))))))
           (.jump 0 [a (v (L T4) 0), a (v I 1), a (v (L B) 2)]))))
        (.jump 0 [a (v (L T4) 0), a (v I 1), a (v (L B) 2)]))))
     (.jump 0 [a (v (L T4) 0), a (sub (v I 1) (c 1)), a (v (L B) 2)]))
    (.ret [a (v (L B) 2)]))))
def tr_spec_UsedBy : Tr := .call f_spec_TermsValid [a (v (L T4) 0), a (v I 1)] 100320
 (.ite (nt (v B 100320))
  (.ret [a (nl I)])
  (.call f_spec_l1Needed [a (v (L T4) 0)] 100512
   (.loop [a (v (L T4) 0), a (v I 1), a (c 0), a (nl I), a (v (L B) 100512)]
    (.ite (lt (v I 2) (v I 1))
     (.join
      (.loop [a (v (L T4) 0), a (v I 1), a (v I 2), a (k false), a (c 0), a (v (L I) 3), a (v (L B) 4)]
       (.ite (lt (v I 4) (ln (v (L T4) 0)))
        (.join
         (.ite (v B 3)
          (.jump 0 [a (v (L T4) 0), a (v I 1), a (v I 2), a (k true), a (v I 4), a (v (L I) 5), a (v (L B) 6)])
          (.guard (le (c 0) (v I 4))
           (.guard (lt (v I 4) (ln (v (L B) 6)))
            (.ite (ix (v (L B) 6) (v I 4))
             (.guard (le (c 0) (v I 4))
              (.guard (lt (v I 4) (ln (v (L T4) 0)))
               (.ite (eq (f (ix (v (L T4) 0) (v I 4))) (c 1))
                (.guard (le (c 0) (v I 4))
                 (.guard (lt (v I 4) (ln (v (L T4) 0)))
                  (.jump 0 [a (v (L T4) 0), a (v I 1), a (v I 2), a (eq (f (s (ix (v (L T4) 0) (v I 4)))) (v I 2)), a (v I 4), a (v (L I) 5), a (v (L B) 6)])))
                (.jump 0 [a (v (L T4) 0), a (v I 1), a (v I 2), a (k false), a (v I 4), a (v (L I) 5), a (v (L B) 6)]))))
             (.jump 0 [a (v (L T4) 0), a (v I 1), a (v I 2), a (k false), a (v I 4), a (v (L I) 5), a (v (L B) 6)])))))
         (.jump 0 [a (v (L T4) 0), a (v I 1), a (v I 2), a (v B 3), a (add (v I 4) (c 1)), a (v (L I) 5), a (v (L B) 6)]))
        (.ite (v B 3)
         (.guard (le (ln (v (L I) 5)) (c 549755813888))
          (.guard (le (ln (one (v I 2))) (c 549755813888))
           (.jump 1 [a (v (L T4) 0), a (v I 1), a (v I 2), a (app (v (L I) 5) (one (v I 2))), a (v (L B) 6)])))
         (.jump 1 [a (v (L T4) 0), a (v I 1), a (v I 2), a (v (L I) 5), a (v (L B) 6)]))))
      (.jump 0 [a (v (L T4) 0), a (v I 1), a (add (v I 2) (c 1)), a (v (L I) 3), a (v (L B) 4)]))
     (.ret [a (v (L I) 3)])))))
def tr_spec_l2Has : Tr := .loop [a (v (L I) 0), a (v I 1), a (c 0)]
 (.ite (lt (v I 2) (ln (v (L I) 0)))
  (.guard (le (c 0) (v I 2))
   (.guard (lt (v I 2) (ln (v (L I) 0)))
    (.ite (eq (ix (v (L I) 0) (v I 2)) (v I 1))
     (.ret [a (k true)])
     (.jump 0 [a (v (L I) 0), a (v I 1), a (add (v I 2) (c 1))]))))
  (.ret [a (k false)]))
def tr_spec_TouchedBy : Tr := .call f_spec_SystemValid [a (v (L V3) 0), a (v (L TR) 1)] 100256
 (.ite (nt (v B 100256))
  (.ret [a (nl I), a (nl I)])
  (.call f_spec_l1In [a (v I 2), a (c 0), a (sub (ln (v (L TR) 1)) (c 1))] 100768
   (.ite (nt (v B 100768))
    (.ret [a (nl I), a (nl I)])
    (.guard (le (c 0) (v I 2))
     (.guard (lt (v I 2) (ln (v (L TR) 1)))
      (.loop [a (c 0), a (v (L V3) 0), a (v (L TR) 1), a (f (ix (v (L TR) 1) (v I 2))), a (f (s (ix (v (L TR) 1) (v I 2)))), a (s (s (ix (v (L TR) 1) (v I 2)))), a (nl I)]
       (.ite (lt (v I 0) (ln (v (L I) 4)))
        (.guard (le (c 0) (v I 0))
         (.guard (lt (v I 0) (ln (v (L I) 4)))
          (.guard (le (ln (v (L I) 6)) (c 549755813888))
           (.guard (le (ln (one (ix (v (L I) 4) (v I 0)))) (c 549755813888))
            (.jump 0 [a (add (v I 0) (c 1)), a (v (L V3) 1), a (v (L TR) 2), a (v (L T4) 3), a (v (L I) 4), a (v (L (L T4)) 5), a (app (v (L I) 6) (one (ix (v (L I) 4) (v I 0))))])))))
        (.loop [a (c 0), a (v (L V3) 1), a (v (L TR) 2), a (v (L T4) 3), a (v (L I) 4), a (v (L (L T4)) 5), a (v (L I) 6), a (nl I)]
         (.ite (lt (v I 0) (ln (v (L V3) 1)))
          (.join
           (.call f_spec_UsedBy [a (v (L T4) 3), a (ln (v (L V3) 1))] 652
            (.call f_spec_l2Has [a (v (L I) 652), a (v I 0)] 780
             (.loop [a (v I 0), a (v B 780), a (c 0), a (v (L V3) 1), a (v (L TR) 2), a (v (L T4) 3), a (v (L I) 4), a (v (L (L T4)) 5), a (v (L I) 6), a (v (L I) 7)]
              (.ite (lt (v I 2) (ln (v (L (L T4)) 7)))
               (.join
                (.ite (v B 1)
                 (.jump 0 [a (v I 0), a (k true), a (v I 2), a (v (L V3) 3), a (v (L TR) 4), a (v (L T4) 5), a (v (L I) 6), a (v (L (L T4)) 7), a (v (L I) 8), a (v (L I) 9)])
                 (.guard (le (c 0) (v I 2))
                  (.guard (lt (v I 2) (ln (v (L (L T4)) 7)))
                   (.call f_spec_UsedBy [a (ix (v (L (L T4)) 7) (v I 2)), a (ln (v (L V3) 3))] 1038
                    (.call f_spec_l2Has [a (v (L I) 1038), a (v I 0)] 1102
                     (.jump 0 [a (v I 0), a (v B 1102), a (v I 2), a (v (L V3) 3), a (v (L TR) 4), a (v (L T4) 5), a (v (L I) 6), a (v (L (L T4)) 7), a (v (L I) 8), a (v (L I) 9)]))))))
                (.jump 0 [a (v I 0), a (v B 1), a (add (v I 2) (c 1)), a (v (L V3) 3), a (v (L TR) 4), a (v (L T4) 5), a (v (L I) 6), a (v (L (L T4)) 7), a (v (L I) 8), a (v (L I) 9)]))
               (.ite (v B 1)
                (.guard (le (ln (v (L I) 9)) (c 549755813888))
                 (.guard (le (ln (one (v I 0))) (c 549755813888))
                  (.jump 1 [a (v I 0), a (v (L V3) 3), a (v (L TR) 4), a (v (L T4) 5), a (v (L I) 6), a (v (L (L T4)) 7), a (v (L I) 8), a (app (v (L I) 9) (one (v I 0)))])))
                (.jump 1 [a (v I 0), a (v (L V3) 3), a (v (L TR) 4), a (v (L T4) 5), a (v (L I) 6), a (v (L (L T4)) 7), a (v (L I) 8), a (v (L I) 9)]))))))
           (.jump 0 [a (add (v I 0) (c 1)), a (v (L V3) 1), a (v (L TR) 2), a (v (L T4) 3), a (v (L I) 4), a (v (L (L T4)) 5), a (v (L I) 6), a (v (L I) 7)]))
          (.ret [a (v (L I) 6), a (v (L I) 7)]))))))))))
def tr_spec_l26Meet : Tr := .loop [a (v (L I) 0), a (v (L I) 1), a (c 0)]
 (.ite (lt (v I 2) (ln (v (L I) 0)))
  (.guard (le (c 0) (v I 2))
   (.guard (lt (v I 2) (ln (v (L I) 0)))
    (.call f_spec_l2Has [a (v (L I) 1), a (ix (v (L I) 0) (v I 2))] 579
     (.ite (v B 579)
      (.ret [a (k true)])
      (.jump 0 [a (v (L I) 0), a (v (L I) 1), a (add (v I 2) (c 1))])))))
  (.ret [a (k false)]))
def tr_spec_l26Apart : Tr := .call f_spec_TouchedBy [a (v (L V3) 0), a (v (L TR) 1), a (v I 2)] 100256
 (.call f_spec_TouchedBy [a (v (L V3) 0), a (v (L TR) 1), a (v I 3)] 100768
  (.call f_spec_l26Meet [a (v (L I) 100256), a (v (L I) 100768)] 101280
   (.ite (nt (v B 101280))
    (.call f_spec_l26Meet [a (v (L I) 100256), a (v (L I) 100769)] 101600
     (.ite (nt (v B 101600))
      (.call f_spec_l26Meet [a (v (L I) 100768), a (v (L I) 100257)] 101984
       (.ret [a (nt (v B 101984))]))
      (.ret [a (k false)])))
    (.ret [a (k false)]))))
def tr_spec_l26Wakers : Tr := .call f_spec_TouchedBy [a (v (L V3) 0), a (v (L TR) 1), a (v I 2)] 100256
 (.loop [a (v I 2), a (c 0), a (v (L V3) 0), a (v (L TR) 1), a (v (L I) 100257), a (nl I)]
  (.ite (lt (v I 1) (ln (v (L TR) 3)))
   (.join
    (.ite (ne (v I 1) (v I 0))
     (.guard (le (c 0) (v I 1))
      (.guard (lt (v I 1) (ln (v (L TR) 3)))
       (.call f_spec_l26Meet [a (f (s (ix (v (L TR) 3) (v I 1)))), a (v (L I) 4)] 1033
        (.ite (v B 1033)
         (.guard (le (ln (v (L I) 5)) (c 549755813888))
          (.guard (le (ln (one (v I 1))) (c 549755813888))
           (.jump 0 [a (v I 0), a (v I 1), a (v (L V3) 2), a (v (L TR) 3), a (v (L I) 4), a (app (v (L I) 5) (one (v I 1)))])))
         (.jump 0 [a (v I 0), a (v I 1), a (v (L V3) 2), a (v (L TR) 3), a (v (L I) 4), a (v (L I) 5)])))))
     (.jump 0 [a (v I 0), a (v I 1), a (v (L V3) 2), a (v (L TR) 3), a (v (L I) 4), a (v (L I) 5)]))
    (.jump 0 [a (v I 0), a (add (v I 1) (c 1)), a (v (L V3) 2), a (v (L TR) 3), a (v (L I) 4), a (v (L I) 5)]))
   (.ret [a (v (L I) 5)])))
def tr_spec_l4List : Tr := .loop [a (v (L B) 0), a (c 0), a (nl I)]
 (.ite (lt (v I 1) (ln (v (L B) 0)))
  (.join
   (.guard (le (c 0) (v I 1))
    (.guard (lt (v I 1) (ln (v (L B) 0)))
     (.ite (ix (v (L B) 0) (v I 1))
      (.guard (le (ln (v (L I) 2)) (c 549755813888))
       (.guard (le (ln (one (v I 1))) (c 549755813888))
        (.jump 0 [a (v (L B) 0), a (v I 1), a (app (v (L I) 2) (one (v I 1)))])))
      (.jump 0 [a (v (L B) 0), a (v I 1), a (v (L I) 2)]))))
   (.jump 0 [a (v (L B) 0), a (add (v I 1) (c 1)), a (v (L I) 2)]))
  (.ret [a (v (L I) 2)]))
def tr_spec_l26From : Tr := .guard (le (c 0) (ln (v (L TR) 1)))
 (.guard (le (ln (v (L TR) 1)) (c 549755813888))
  (.guard (le (c 0) (v I 3))
   (.guard (lt (v I 3) (ln (rep (ln (v (L TR) 1)) (z B))))
    (.loop [a (v (L I) 2), a (k true), a (v (L V3) 0), a (v (L TR) 1), a (st (rep (ln (v (L TR) 1)) (z B)) (v I 3) (k true))]
     (.ite (v B 1)
      (.loop [a (v (L I) 0), a (k false), a (c 0), a (v (L V3) 2), a (v (L TR) 3), a (v (L B) 4)]
       (.ite (lt (v I 2) (ln (v (L TR) 4)))
        (.join
         (.call f_spec_l2Use [a (v (L V3) 3), a (v (L TR) 4), a (v (L I) 0), a (v I 2)] 520
          (.loop [a (v (L I) 0), a (v B 1), a (v I 2), a (gt (ln (v (L I) 520)) (c 0)), a (c 0), a (v (L V3) 3), a (v (L TR) 4), a (v (L B) 5)]
           (.ite (lt (v I 4) (ln (v (L TR) 6)))
            (.guard (le (c 0) (v I 2))
             (.guard (lt (v I 2) (ln (v (L B) 7)))
              (.ite (ix (v (L B) 7) (v I 2))
               (.join
                (.join
                 (.ite (v B 3)
                  (.ite (ne (v I 4) (v I 2))
                   (.call f_spec_l26Apart [a (v (L V3) 5), a (v (L TR) 6), a (v I 2), a (v I 4)] 1354
                    (.ite (nt (v B 1354))
                     (.jump 0 [a (v (L I) 0), a (v B 1), a (v I 2), a (k true), a (v I 4), a (k true), a (v (L V3) 5), a (v (L TR) 6), a (v (L B) 7)])
                     (.jump 0 [a (v (L I) 0), a (v B 1), a (v I 2), a (k true), a (v I 4), a (k false), a (v (L V3) 5), a (v (L TR) 6), a (v (L B) 7)])))
                   (.jump 0 [a (v (L I) 0), a (v B 1), a (v I 2), a (k true), a (v I 4), a (k false), a (v (L V3) 5), a (v (L TR) 6), a (v (L B) 7)]))
                  (.call f_spec_l26Wakers [a (v (L V3) 5), a (v (L TR) 6), a (v I 2)] 1930
                   (.call f_spec_l2Has [a (v (L I) 1930), a (v I 4)] 2058
                    (.jump 0 [a (v (L I) 0), a (v B 1), a (v I 2), a (k false), a (v I 4), a (v B 2058), a (v (L V3) 5), a (v (L TR) 6), a (v (L B) 7)]))))
                 (.ite (v B 5)
                  (.guard (le (c 0) (v I 4))
                   (.guard (lt (v I 4) (ln (v (L B) 8)))
                    (.ite (nt (ix (v (L B) 8) (v I 4)))
                     (.guard (le (c 0) (v I 4))
                      (.guard (lt (v I 4) (ln (v (L B) 8)))
                       (.jump 0 [a (v (L I) 0), a (k true), a (v I 2), a (v B 3), a (v I 4), a (v (L V3) 6), a (v (L TR) 7), a (st (v (L B) 8) (v I 4) (k true))])))
                     (.jump 0 [a (v (L I) 0), a (v B 1), a (v I 2), a (v B 3), a (v I 4), a (v (L V3) 6), a (v (L TR) 7), a (v (L B) 8)]))))
                  (.jump 0 [a (v (L I) 0), a (v B 1), a (v I 2), a (v B 3), a (v I 4), a (v (L V3) 6), a (v (L TR) 7), a (v (L B) 8)])))
                (.jump 0 [a (v (L I) 0), a (v B 1), a (v I 2), a (v B 3), a (add (v I 4) (c 1)), a (v (L V3) 5), a (v (L TR) 6), a (v (L B) 7)]))
               (.jump 1 [a (v (L I) 0), a (v B 1), a (v I 2), a (v (L V3) 5), a (v (L TR) 6), a (v (L B) 7)]))))
            (.jump 1 [a (v (L I) 0), a (v B 1), a (v I 2), a (v (L V3) 5), a (v (L TR) 6), a (v (L B) 7)]))))
         (.jump 0 [a (v (L I) 0), a (v B 1), a (add (v I 2) (c 1)), a (v (L V3) 3), a (v (L TR) 4), a (v (L B) 5)]))
        (.jump 1 [a (v (L I) 0), a (v B 1), a (v (L V3) 3), a (v (L TR) 4), a (v (L B) 5)])))
      (.call f_spec_l4List [a (v (L B) 4)] 135
       (.ret [a (v (L I) 135)])))))))
def tr_impl_stubborn_in : Tr := .call f_impl_usableIn [a (v (L V3) 1), a (v (L TR) 2), a (v (L I) 3)] 100256
 (.call f_impl_marks [a (v (L I) 100256), a (ln (v (L TR) 2))] 100640
  (.loop [a (.nil true I), a (ln (v (L I) 100256)), a (c 0), a (f (v (P (L (L B)) (L (L I))) 0)), a (s (v (P (L (L B)) (L (L I))) 0)), a (v (L B) 100640), a (v (L I) 100256)]
   (.ite (lt (v I 2) (v I 1))
    (.join
     (.guard (le (c 0) (v I 2))
      (.guard (lt (v I 2) (ln (v (L I) 6)))
       (.call f_impl_stubborn_from [a (pr (v (L (L B)) 3) (v (L (L I)) 4)), a (v (L B) 5), a (ix (v (L I) 6) (v I 2))] 458
        (.loop [a (v (N I) 0), a (v I 1), a (v I 2), a (ln (v (L B) 458)), a (c 0), a (v (L (L B)) 3), a (v (L (L I)) 4), a (v (L B) 5), a (v (L B) 458), a (v (L I) 6)]
         (.ite (lt (v I 4) (v I 3))
          (.join
           (.guard (le (c 0) (v I 4))
            (.guard (lt (v I 4) (ln (v (L B) 8)))
             (.ite (ix (v (L B) 8) (v I 4))
              (.guard (le (c 0) (v I 4))
               (.guard (lt (v I 4) (ln (v (L B) 7)))
                (.guard (le (c 0) (v I 4))
                 (.guard (lt (v I 4) (ln (v (L B) 8)))
                  (.jump 0 [a (v (N I) 0), a (v I 1), a (v I 2), a (v I 3), a (v I 4), a (v (L (L B)) 5), a (v (L (L I)) 6), a (v (L B) 7), a (st (v (L B) 8) (v I 4) (ix (v (L B) 7) (v I 4))), a (v (L I) 9)])))))
              (.guard (le (c 0) (v I 4))
               (.guard (lt (v I 4) (ln (v (L B) 8)))
                (.jump 0 [a (v (N I) 0), a (v I 1), a (v I 2), a (v I 3), a (v I 4), a (v (L (L B)) 5), a (v (L (L I)) 6), a (v (L B) 7), a (st (v (L B) 8) (v I 4) (k false)), a (v (L I) 9)]))))))
           (.jump 0 [a (v (N I) 0), a (v I 1), a (v I 2), a (v I 3), a (add (v I 4) (c 1)), a (v (L (L B)) 5), a (v (L (L I)) 6), a (v (L B) 7), a (v (L B) 8), a (v (L I) 9)]))
          (.call f_impl_listOf [a (v (L B) 8)] 142
           (.ite (emp (v (N I) 0))
            (.guard (nt (emp (v (L I) 142)))
             (.jump 1 [a (re true (v (L I) 142)), a (v I 1), a (v I 2), a (v (L (L B)) 5), a (v (L (L I)) 6), a (v (L B) 7), a (v (L I) 9)]))
            (.ite (lt (ln (v (L I) 142)) (lm (v (N I) 0)))
             (.guard (nt (emp (v (L I) 142)))
              (.jump 1 [a (re true (v (L I) 142)), a (v I 1), a (v I 2), a (v (L (L B)) 5), a (v (L (L I)) 6), a (v (L B) 7), a (v (L I) 9)]))
             (.jump 1 [a (v (N I) 0), a (v I 1), a (v I 2), a (v (L (L B)) 5), a (v (L (L I)) 6), a (v (L B) 7), a (v (L I) 9)])))))))))
     (.jump 0 [a (v (N I) 0), a (v I 1), a (add (v I 2) (c 1)), a (v (L (L B)) 3), a (v (L (L I)) 4), a (v (L B) 5), a (v (L I) 6)]))
    (.call f_impl_clone_int [a (re false (v (N I) 0))] 138
     (.ret [a (v (L I) 138), a (pr (v (L (L B)) 3) (v (L (L I)) 4))])))))
def tr_spec_l26Usable : Tr := .loop [a (v (L I) 2), a (v (L I) 3), a (c 0), a (v (L V3) 0), a (v (L TR) 1), a (nl I)]
 (.ite (lt (v I 2) (ln (v (L I) 1)))
  (.join
   (.guard (le (c 0) (v I 2))
    (.guard (lt (v I 2) (ln (v (L I) 1)))
     (.call f_spec_l2Use [a (v (L V3) 3), a (v (L TR) 4), a (v (L I) 0), a (ix (v (L I) 1) (v I 2))] 648
      (.ite (gt (ln (v (L I) 648)) (c 0))
       (.guard (le (c 0) (v I 2))
        (.guard (lt (v I 2) (ln (v (L I) 1)))
         (.guard (le (ln (v (L I) 5)) (c 549755813888))
          (.guard (le (ln (one (ix (v (L I) 1) (v I 2)))) (c 549755813888))
           (.jump 0 [a (v (L I) 0), a (v (L I) 1), a (v I 2), a (v (L V3) 3), a (v (L TR) 4), a (app (v (L I) 5) (one (ix (v (L I) 1) (v I 2))))])))))
       (.jump 0 [a (v (L I) 0), a (v (L I) 1), a (v I 2), a (v (L V3) 3), a (v (L TR) 4), a (v (L I) 5)])))))
   (.jump 0 [a (v (L I) 0), a (v (L I) 1), a (add (v I 2) (c 1)), a (v (L V3) 3), a (v (L TR) 4), a (v (L I) 5)]))
  (.ret [a (v (L I) 5)]))
def tr_spec_l26Best : Tr := .loop [a (v (L I) 2), a (c 0), a (v (L V3) 0), a (v (L TR) 1), a (nl I)]
 (.ite (lt (v I 1) (ln (v (L TR) 3)))
  (.join
   (.call f_spec_l2Use [a (v (L V3) 2), a (v (L TR) 3), a (v (L I) 0), a (v I 1)] 519
    (.ite (gt (ln (v (L I) 519)) (c 0))
     (.call f_spec_l26From [a (v (L V3) 2), a (v (L TR) 3), a (v (L I) 0), a (v I 1)] 1031
      (.call f_spec_l26Usable [a (v (L V3) 2), a (v (L TR) 3), a (v (L I) 0), a (v (L I) 1031)] 1095
       (.ite (eq (ln (v (L I) 4)) (c 0))
        (.jump 0 [a (v (L I) 0), a (v I 1), a (v (L V3) 2), a (v (L TR) 3), a (v (L I) 1095)])
        (.ite (lt (ln (v (L I) 1095)) (ln (v (L I) 4)))
         (.jump 0 [a (v (L I) 0), a (v I 1), a (v (L V3) 2), a (v (L TR) 3), a (v (L I) 1095)])
         (.jump 0 [a (v (L I) 0), a (v I 1), a (v (L V3) 2), a (v (L TR) 3), a (v (L I) 4)])))))
     (.jump 0 [a (v (L I) 0), a (v I 1), a (v (L V3) 2), a (v (L TR) 3), a (v (L I) 4)])))
   (.jump 0 [a (v (L I) 0), a (add (v I 1) (c 1)), a (v (L V3) 2), a (v (L TR) 3), a (v (L I) 4)]))
  (.ret [a (v (L I) 4)]))
def tr_laws_szVarS : Tr := .ite (lt (sub (v I 1) (ln (v (L V3) 0))) (c 0))
 (.ret [a (c (-1))])
 (.ret [a (sub (v I 1) (ln (v (L V3) 0)))])
def tr_laws_szTermS : Tr := .ite (lt (sub (v I 1) (ln (v (L T4) 0))) (c 0))
 (.ret [a (c (-1))])
 (.ret [a (sub (v I 1) (ln (v (L T4) 0)))])
def tr_laws_szIntS : Tr := .ite (lt (sub (v I 1) (ln (v (L I) 0))) (c 0))
 (.ret [a (c (-1))])
 (.ret [a (sub (v I 1) (ln (v (L I) 0)))])
def tr_laws_szTermSS : Tr := .ite (lt (sub (v I 1) (ln (v (L (L T4)) 0))) (c 0))
 (.ret [a (c (-1))])
 (.loop [a (v (L (L T4)) 0), a (sub (v I 1) (ln (v (L (L T4)) 0))), a (c 0)]
  (.ite (lt (v I 2) (ln (v (L (L T4)) 0)))
   (.guard (le (c 0) (v I 2))
    (.guard (lt (v I 2) (ln (v (L (L T4)) 0)))
     (.call f_laws_szTermS [a (ix (v (L (L T4)) 0) (v I 2)), a (v I 1)] 579
      (.ite (lt (v I 579) (c 0))
       (.ret [a (c (-1))])
       (.jump 0 [a (v (L (L T4)) 0), a (v I 579), a (add (v I 2) (c 1))])))))
   (.ret [a (v I 1)])))
def tr_laws_szRule : Tr := .call f_laws_szTermS [a (v (L T4) 0), a (v I 3)] 100320
 (.ite (lt (v I 100320) (c 0))
  (.ret [a (c (-1))])
  (.call f_laws_szIntS [a (v (L I) 1), a (v I 100320)] 100768
   (.ite (lt (v I 100768) (c 0))
    (.ret [a (c (-1))])
    (.call f_laws_szTermSS [a (v (L (L T4)) 2), a (v I 100768)] 101216
     (.ite (lt (v I 101216) (c 0))
      (.ret [a (c (-1))])
      (.ret [a (v I 101216)]))))))
def tr_laws_szRuleS : Tr := .ite (lt (sub (v I 1) (ln (v (L TR) 0))) (c 0))
 (.ret [a (c (-1))])
 (.loop [a (v (L TR) 0), a (sub (v I 1) (ln (v (L TR) 0))), a (c 0)]
  (.ite (lt (v I 2) (ln (v (L TR) 0)))
   (.guard (le (c 0) (v I 2))
    (.guard (lt (v I 2) (ln (v (L TR) 0)))
     (.call f_laws_szRule [a (f (ix (v (L TR) 0) (v I 2))), a (f (s (ix (v (L TR) 0) (v I 2)))), a (s (s (ix (v (L TR) 0) (v I 2)))), a (v I 1)] 579
      (.ite (lt (v I 579) (c 0))
       (.ret [a (c (-1))])
       (.jump 0 [a (v (L TR) 0), a (v I 579), a (add (v I 2) (c 1))])))))
   (.ret [a (v I 1)])))
def tr_laws_szSystem : Tr := .call f_laws_szVarS [a (v (L V3) 0), a (v I 2)] 100320
 (.ite (lt (v I 100320) (c 0))
  (.ret [a (c (-1))])
  (.call f_laws_szRuleS [a (v (L TR) 1), a (v I 100320)] 100768
   (.ite (lt (v I 100768) (c 0))
    (.ret [a (c (-1))])
    (.ret [a (v I 100768)]))))
def tr_laws_toVar : Tr := .ret [a (v I 0), a (v I 1), a (v I 2)]
def tr_laws_toVarS : Tr := .guard (le (c 0) (ln (v (L V3) 0)))
 (.guard (le (ln (v (L V3) 0)) (c 549755813888))
  (.loop [a (v (L V3) 0), a (c 0), a (rep (ln (v (L V3) 0)) (z V3))]
   (.ite (lt (v I 1) (ln (v (L V3) 0)))
    (.guard (le (c 0) (v I 1))
     (.guard (lt (v I 1) (ln (v (L V3) 0)))
      (.call f_laws_toVar [a (f (ix (v (L V3) 0) (v I 1))), a (f (s (ix (v (L V3) 0) (v I 1)))), a (s (s (ix (v (L V3) 0) (v I 1))))] 644
       (.guard (le (c 0) (v I 1))
        (.guard (lt (v I 1) (ln (v (L V3) 2)))
         (.jump 0 [a (v (L V3) 0), a (add (v I 1) (c 1)), a (st (v (L V3) 2) (v I 1) (pr (v I 644) (pr (v I 645) (v I 646))))]))))))
    (.ret [a (v (L V3) 2)]))))
def tr_laws_toTerm : Tr := .ret [a (v I 0), a (v I 1), a (v I 2), a (v I 3)]
def tr_laws_toTermS : Tr := .guard (le (c 0) (ln (v (L T4) 0)))
 (.guard (le (ln (v (L T4) 0)) (c 549755813888))
  (.loop [a (v (L T4) 0), a (c 0), a (rep (ln (v (L T4) 0)) (z T4))]
   (.ite (lt (v I 1) (ln (v (L T4) 0)))
    (.guard (le (c 0) (v I 1))
     (.guard (lt (v I 1) (ln (v (L T4) 0)))
      (.call f_laws_toTerm [a (f (ix (v (L T4) 0) (v I 1))), a (f (s (ix (v (L T4) 0) (v I 1)))), a (f (s (s (ix (v (L T4) 0) (v I 1))))), a (s (s (s (ix (v (L T4) 0) (v I 1)))))] 644
       (.guard (le (c 0) (v I 1))
        (.guard (lt (v I 1) (ln (v (L T4) 2)))
         (.jump 0 [a (v (L T4) 0), a (add (v I 1) (c 1)), a (st (v (L T4) 2) (v I 1) (pr (v I 644) (pr (v I 645) (pr (v I 646) (v I 647)))))]))))))
    (.ret [a (v (L T4) 2)]))))
def tr_laws_toIntS : Tr := .guard (le (c 0) (ln (v (L I) 0)))
 (.guard (le (ln (v (L I) 0)) (c 549755813888))
  (.loop [a (v (L I) 0), a (c 0), a (rep (ln (v (L I) 0)) (z I))]
   (.ite (lt (v I 1) (ln (v (L I) 0)))
    (.guard (le (c 0) (v I 1))
     (.guard (lt (v I 1) (ln (v (L I) 0)))
      (.guard (le (c 0) (v I 1))
       (.guard (lt (v I 1) (ln (v (L I) 2)))
        (.jump 0 [a (v (L I) 0), a (add (v I 1) (c 1)), a (st (v (L I) 2) (v I 1) (ix (v (L I) 0) (v I 1)))])))))
    (.ret [a (v (L I) 2)]))))
def tr_laws_toTermSS : Tr := .guard (le (c 0) (ln (v (L (L T4)) 0)))
 (.guard (le (ln (v (L (L T4)) 0)) (c 549755813888))
  (.loop [a (v (L (L T4)) 0), a (c 0), a (rep (ln (v (L (L T4)) 0)) (z (L T4)))]
   (.ite (lt (v I 1) (ln (v (L (L T4)) 0)))
    (.guard (le (c 0) (v I 1))
     (.guard (lt (v I 1) (ln (v (L (L T4)) 0)))
      (.call f_laws_toTermS [a (ix (v (L (L T4)) 0) (v I 1))] 644
       (.guard (le (c 0) (v I 1))
        (.guard (lt (v I 1) (ln (v (L (L T4)) 2)))
         (.jump 0 [a (v (L (L T4)) 0), a (add (v I 1) (c 1)), a (st (v (L (L T4)) 2) (v I 1) (v (L T4) 644))]))))))
    (.ret [a (v (L (L T4)) 2)]))))
def tr_laws_toRule : Tr := .call f_laws_toTermS [a (v (L T4) 0)] 100320
 (.call f_laws_toIntS [a (v (L I) 1)] 100640
  (.call f_laws_toTermSS [a (v (L (L T4)) 2)] 100960
   (.ret [a (v (L T4) 100320), a (v (L I) 100640), a (v (L (L T4)) 100960)])))
def tr_laws_toRuleS : Tr := .guard (le (c 0) (ln (v (L TR) 0)))
 (.guard (le (ln (v (L TR) 0)) (c 549755813888))
  (.loop [a (v (L TR) 0), a (c 0), a (rep (ln (v (L TR) 0)) (z TR))]
   (.ite (lt (v I 1) (ln (v (L TR) 0)))
    (.guard (le (c 0) (v I 1))
     (.guard (lt (v I 1) (ln (v (L TR) 0)))
      (.call f_laws_toRule [a (f (ix (v (L TR) 0) (v I 1))), a (f (s (ix (v (L TR) 0) (v I 1)))), a (s (s (ix (v (L TR) 0) (v I 1))))] 644
       (.guard (le (c 0) (v I 1))
        (.guard (lt (v I 1) (ln (v (L TR) 2)))
         (.jump 0 [a (v (L TR) 0), a (add (v I 1) (c 1)), a (st (v (L TR) 2) (v I 1) (pr (v (L T4) 644) (pr (v (L I) 645) (v (L (L T4)) 646))))]))))))
    (.ret [a (v (L TR) 2)]))))
end Go.Proofs.YthapopegchnhlabGreat
namespace Go.Proofs.YthapopegchnhlabGreat
open Go Go.Sm Go.Sm.Q
def tr_laws_toSystem : Tr := .call f_laws_toVarS [a (v (L V3) 0)] 100320
 (.call f_laws_toRuleS [a (v (L TR) 1)] 100640
  (.ret [a (v (L V3) 100320), a (v (L TR) 100640)]))
def tr_spec_SizeOf : Tr := .call f_spec_SystemValid [a (v (L V3) 0), a (v (L TR) 1)] 100192
 (.ite (nt (v B 100192))
  (.ret [a (c 0)])
  (.loop [a (c 1), a (c 0), a (v (L V3) 0), a (v (L TR) 1)]
   (.ite (lt (v I 1) (ln (v (L V3) 2)))
    (.guard (le (c 0) (v I 1))
     (.guard (lt (v I 1) (ln (v (L V3) 2)))
      (.guard (le (c 0) (v I 1))
       (.guard (lt (v I 1) (ln (v (L V3) 2)))
        (.jump 0 [a (mul (v I 0) (add (sub (f (s (ix (v (L V3) 2) (v I 1)))) (f (ix (v (L V3) 2) (v I 1)))) (c 1))), a (add (v I 1) (c 1)), a (v (L V3) 2), a (v (L TR) 3)])))))
    (.ret [a (v I 0)]))))
def tr_spec_FirstState : Tr := .join
 (.loop [a (c 0), a (v (L V3) 0), a (v (L TR) 1), a (nl I)]
  (.ite (lt (v I 0) (ln (v (L V3) 1)))
   (.call f_spec_SystemValid [a (v (L V3) 1), a (v (L TR) 2)] 454
    (.ite (v B 454)
     (.guard (le (c 0) (v I 0))
      (.guard (lt (v I 0) (ln (v (L V3) 1)))
       (.guard (le (ln (v (L I) 3)) (c 549755813888))
        (.guard (le (ln (one (s (s (ix (v (L V3) 1) (v I 0)))))) (c 549755813888))
         (.jump 0 [a (add (v I 0) (c 1)), a (v (L V3) 1), a (v (L TR) 2), a (app (v (L I) 3) (one (s (s (ix (v (L V3) 1) (v I 0))))))])))))
     (.jump 1 [a (v (L I) 3)])))
   (.jump 1 [a (v (L I) 3)])))
 (.ret [a (v (L I) 0)])
def tr_spec_l3Copy : Tr := .loop [a (v (L I) 0), a (c 0), a (nl I)]
 (.ite (lt (v I 1) (ln (v (L I) 0)))
  (.guard (le (c 0) (v I 1))
   (.guard (lt (v I 1) (ln (v (L I) 0)))
    (.guard (le (ln (v (L I) 2)) (c 549755813888))
     (.guard (le (ln (one (ix (v (L I) 0) (v I 1)))) (c 549755813888))
      (.jump 0 [a (v (L I) 0), a (add (v I 1) (c 1)), a (app (v (L I) 2) (one (ix (v (L I) 0) (v I 1))))])))))
  (.ret [a (v (L I) 2)]))
def tr_spec_l4State : Tr := .call f_spec_FirstState [a (v (L V3) 0), a (v (L TR) 1)] 100192
 (.call f_spec_l3Copy [a (v (L I) 100192)] 100256
  (.loop [a (v I 2), a (sub (ln (v (L V3) 0)) (c 1)), a (v (L V3) 0), a (v (L TR) 1), a (v (L I) 100256)]
   (.ite (ge (v I 1) (c 0))
    (.guard (le (c 0) (v I 1))
     (.guard (lt (v I 1) (ln (v (L V3) 2)))
      (.guard (le (c 0) (v I 1))
       (.guard (lt (v I 1) (ln (v (L V3) 2)))
        (.guard (le (c 0) (v I 1))
         (.guard (lt (v I 1) (ln (v (L V3) 2)))
          (.guard (ne (add (sub (f (s (ix (v (L V3) 2) (v I 1)))) (f (ix (v (L V3) 2) (v I 1)))) (c 1)) (c 0))
           (.guard (le (c 0) (v I 1))
            (.guard (lt (v I 1) (ln (v (L I) 4)))
             (.guard (ne (add (sub (f (s (ix (v (L V3) 2) (v I 1)))) (f (ix (v (L V3) 2) (v I 1)))) (c 1)) (c 0))
              (.jump 0 [a (quo (v I 0) (add (sub (f (s (ix (v (L V3) 2) (v I 1)))) (f (ix (v (L V3) 2) (v I 1)))) (c 1))), a (sub (v I 1) (c 1)), a (v (L V3) 2), a (v (L TR) 3), a (st (v (L I) 4) (v I 1) (add (f (ix (v (L V3) 2) (v I 1))) (rem (v I 0) (add (sub (f (s (ix (v (L V3) 2) (v I 1)))) (f (ix (v (L V3) 2) (v I 1)))) (c 1)))))])))))))))))
    (.ret [a (v (L I) 4)]))))
def tr_spec_l4Number : Tr := .loop [a (v (L I) 2), a (c 0), a (c 0), a (v (L V3) 0), a (v (L TR) 1)]
 (.ite (lt (v I 2) (ln (v (L I) 0)))
  (.guard (le (c 0) (v I 2))
   (.guard (lt (v I 2) (ln (v (L V3) 3)))
    (.guard (le (c 0) (v I 2))
     (.guard (lt (v I 2) (ln (v (L V3) 3)))
      (.guard (le (c 0) (v I 2))
       (.guard (lt (v I 2) (ln (v (L I) 0)))
        (.guard (le (c 0) (v I 2))
         (.guard (lt (v I 2) (ln (v (L V3) 3)))
          (.jump 0 [a (v (L I) 0), a (sub (add (mul (v I 1) (add (sub (f (s (ix (v (L V3) 3) (v I 2)))) (f (ix (v (L V3) 3) (v I 2)))) (c 1))) (ix (v (L I) 0) (v I 2))) (f (ix (v (L V3) 3) (v I 2)))), a (add (v I 2) (c 1)), a (v (L V3) 3), a (v (L TR) 4)])))))))))
  (.ret [a (v I 1)]))
def tr_spec_l17Ordered : Tr := .loop [a (v (L I) 0), a (c 0), a (rep (c 400) (z B))]
 (.ite (lt (v I 1) (ln (v (L I) 0)))
  (.guard (le (c 0) (v I 1))
   (.guard (lt (v I 1) (ln (v (L I) 0)))
    (.guard (le (c 0) (ix (v (L I) 0) (v I 1)))
     (.guard (lt (ix (v (L I) 0) (v I 1)) (ln (v (L B) 2)))
      (.jump 0 [a (v (L I) 0), a (add (v I 1) (c 1)), a (st (v (L B) 2) (ix (v (L I) 0) (v I 1)) (k true))])))))
  (.call f_spec_l4List [a (v (L B) 2)] 324
   (.ret [a (v (L I) 324)])))
def tr_spec_l26Steps : Tr := .loop [a (c 0), a (v (L V3) 0), a (v (L TR) 1), a (nl (L I))]
 (.call f_spec_SizeOf [a (v (L V3) 1), a (v (L TR) 2)] 134
  (.ite (lt (v I 0) (v I 134))
   (.call f_spec_l4State [a (v (L V3) 1), a (v (L TR) 2), a (v I 0)] 390
    (.call f_spec_l26Best [a (v (L V3) 1), a (v (L TR) 2), a (v (L I) 390)] 646
     (.loop [a (v I 0), a (c 0), a (v (L V3) 1), a (v (L TR) 2), a (v (L (L I)) 3), a (v (L I) 390), a (v (L I) 646), a (nl I)]
      (.ite (lt (v I 1) (ln (v (L I) 6)))
       (.guard (le (c 0) (v I 1))
        (.guard (lt (v I 1) (ln (v (L I) 6)))
         (.call f_spec_l2Use [a (v (L V3) 2), a (v (L TR) 3), a (v (L I) 5), a (ix (v (L I) 6) (v I 1))] 781
          (.call f_spec_l4Number [a (v (L V3) 2), a (v (L TR) 3), a (v (L I) 781)] 845
           (.guard (le (ln (v (L I) 7)) (c 549755813888))
            (.guard (le (ln (one (v I 845))) (c 549755813888))
             (.jump 0 [a (v I 0), a (add (v I 1) (c 1)), a (v (L V3) 2), a (v (L TR) 3), a (v (L (L I)) 4), a (v (L I) 5), a (v (L I) 6), a (app (v (L I) 7) (one (v I 845)))])))))))
       (.call f_spec_l17Ordered [a (v (L I) 7)] 397
        (.guard (le (ln (v (L (L I)) 4)) (c 549755813888))
         (.guard (le (ln (one (v (L I) 397))) (c 549755813888))
          (.jump 1 [a (add (v I 0) (c 1)), a (v (L V3) 2), a (v (L TR) 3), a (app (v (L (L I)) 4) (one (v (L I) 397)))]))))))))
   (.ret [a (v (L (L I)) 3)])))
def tr_spec_l4Marks : Tr := .guard (le (c 0) (v I 1))
 (.guard (le (v I 1) (c 549755813888))
  (.loop [a (v (L I) 0), a (c 0), a (rep (v I 1) (z B))]
   (.ite (lt (v I 1) (ln (v (L I) 0)))
    (.guard (le (c 0) (v I 1))
     (.guard (lt (v I 1) (ln (v (L I) 0)))
      (.guard (le (c 0) (ix (v (L I) 0) (v I 1)))
       (.guard (lt (ix (v (L I) 0) (v I 1)) (ln (v (L B) 2)))
        (.jump 0 [a (v (L I) 0), a (add (v I 1) (c 1)), a (st (v (L B) 2) (ix (v (L I) 0) (v I 1)) (k true))])))))
    (.ret [a (v (L B) 2)]))))
def tr_spec_l5First : Tr := .call f_spec_FirstState [a (v (L V3) 0), a (v (L TR) 1)] 100320
 (.call f_spec_l4Number [a (v (L V3) 0), a (v (L TR) 1), a (v (L I) 100320)] 100384
  (.call f_spec_SizeOf [a (v (L V3) 0), a (v (L TR) 1)] 100512
   (.call f_spec_l4Marks [a (one (v I 100384)), a (v I 100512)] 100576
    (.join
     (.jump 0 [a (v (L B) 100576)])
     (.ret [a (v (L B) 0)])))))
def tr_spec_l5Steps : Tr := .loop [a (v (L (L I)) 0), a (v (L B) 1), a (c 0), a (nl I)]
 (.ite (lt (v I 2) (ln (v (L (L I)) 0)))
  (.join
   (.guard (le (c 0) (v I 2))
    (.guard (lt (v I 2) (ln (v (L B) 1)))
     (.ite (ix (v (L B) 1) (v I 2))
      (.guard (le (ln (v (L I) 3)) (c 549755813888))
       (.guard (le (ln (one (c 0))) (c 549755813888))
        (.jump 0 [a (v (L (L I)) 0), a (v (L B) 1), a (v I 2), a (app (v (L I) 3) (one (c 0)))])))
      (.guard (le (ln (v (L I) 3)) (c 549755813888))
       (.guard (le (ln (one (c (-1)))) (c 549755813888))
        (.jump 0 [a (v (L (L I)) 0), a (v (L B) 1), a (v I 2), a (app (v (L I) 3) (one (c (-1))))]))))))
   (.jump 0 [a (v (L (L I)) 0), a (v (L B) 1), a (add (v I 2) (c 1)), a (v (L I) 3)]))
  (.loop [a (v (L (L I)) 0), a (k true), a (c 0), a (v (L I) 3)]
   (.ite (v B 1)
    (.loop [a (v (L (L I)) 0), a (k false), a (v I 2), a (c 0), a (v (L I) 3)]
     (.ite (lt (v I 3) (ln (v (L (L I)) 0)))
      (.join
       (.loop [a (v (L (L I)) 0), a (v B 1), a (v I 2), a (v I 3), a (c 0), a (v (L I) 4)]
        (.guard (le (c 0) (v I 3))
         (.guard (lt (v I 3) (ln (v (L (L I)) 0)))
          (.ite (lt (v I 4) (ln (ix (v (L (L I)) 0) (v I 3))))
           (.guard (le (c 0) (v I 3))
            (.guard (lt (v I 3) (ln (v (L I) 5)))
             (.ite (eq (ix (v (L I) 5) (v I 3)) (v I 2))
              (.join
               (.guard (le (c 0) (v I 3))
                (.guard (lt (v I 3) (ln (v (L (L I)) 0)))
                 (.guard (le (c 0) (v I 4))
                  (.guard (lt (v I 4) (ln (ix (v (L (L I)) 0) (v I 3))))
                   (.guard (le (c 0) (ix (ix (v (L (L I)) 0) (v I 3)) (v I 4)))
                    (.guard (lt (ix (ix (v (L (L I)) 0) (v I 3)) (v I 4)) (ln (v (L I) 5)))
                     (.ite (lt (ix (v (L I) 5) (ix (ix (v (L (L I)) 0) (v I 3)) (v I 4))) (c 0))
                      (.guard (le (c 0) (v I 3))
                       (.guard (lt (v I 3) (ln (v (L (L I)) 0)))
                        (.guard (le (c 0) (v I 4))
                         (.guard (lt (v I 4) (ln (ix (v (L (L I)) 0) (v I 3))))
                          (.guard (le (c 0) (ix (ix (v (L (L I)) 0) (v I 3)) (v I 4)))
                           (.guard (lt (ix (ix (v (L (L I)) 0) (v I 3)) (v I 4)) (ln (v (L I) 5)))
                            (.jump 0 [a (v (L (L I)) 0), a (k true), a (v I 2), a (v I 3), a (v I 4), a (st (v (L I) 5) (ix (ix (v (L (L I)) 0) (v I 3)) (v I 4)) (add (v I 2) (c 1)))])))))))
                      (.jump 0 [a (v (L (L I)) 0), a (v B 1), a (v I 2), a (v I 3), a (v I 4), a (v (L I) 5)]))))))))
               (.jump 0 [a (v (L (L I)) 0), a (v B 1), a (v I 2), a (v I 3), a (add (v I 4) (c 1)), a (v (L I) 5)]))
              (.jump 1 [a (v (L (L I)) 0), a (v B 1), a (v I 2), a (v I 3), a (v (L I) 5)]))))
           (.jump 1 [a (v (L (L I)) 0), a (v B 1), a (v I 2), a (v I 3), a (v (L I) 5)])))))
       (.jump 0 [a (v (L (L I)) 0), a (v B 1), a (v I 2), a (add (v I 3) (c 1)), a (v (L I) 4)]))
      (.jump 1 [a (v (L (L I)) 0), a (v B 1), a (add (v I 2) (c 1)), a (v (L I) 4)])))
    (.ret [a (v (L I) 3)]))))
def tr_spec_l5Told : Tr := .guard (le (c 0) (ln (v (L I) 0)))
 (.guard (le (ln (v (L I) 0)) (c 549755813888))
  (.loop [a (v (L I) 0), a (c 0), a (rep (ln (v (L I) 0)) (z B))]
   (.ite (lt (v I 1) (ln (v (L I) 0)))
    (.guard (le (c 0) (v I 1))
     (.guard (lt (v I 1) (ln (v (L I) 0)))
      (.guard (le (c 0) (v I 1))
       (.guard (lt (v I 1) (ln (v (L B) 2)))
        (.jump 0 [a (v (L I) 0), a (add (v I 1) (c 1)), a (st (v (L B) 2) (v I 1) (ge (ix (v (L I) 0) (v I 1)) (c 0)))])))))
    (.ret [a (v (L B) 2)]))))
def tr_spec_ReducedReach : Tr := .call f_spec_SystemValid [a (v (L V3) 0), a (v (L TR) 1)] 100192
 (.ite (nt (v B 100192))
  (.ret [a (nl I)])
  (.call f_spec_l26Steps [a (v (L V3) 0), a (v (L TR) 1)] 100448
   (.call f_spec_l5First [a (v (L V3) 0), a (v (L TR) 1)] 100512
    (.call f_spec_l5Steps [a (v (L (L I)) 100448), a (v (L B) 100512)] 100576
     (.call f_spec_l5Told [a (v (L I) 100576)] 100640
      (.call f_spec_l4List [a (v (L B) 100640)] 100704
       (.ret [a (v (L I) 100704)])))))))
def tr_impl_stateAt : Tr := .guard (le (c 0) (ln (v (L V3) 0)))
 (.guard (le (ln (v (L V3) 0)) (c 549755813888))
  (.loop [a (v I 2), a (sub (ln (rep (ln (v (L V3) 0)) (z I))) (c 1)), a (v (L V3) 0), a (v (L TR) 1), a (rep (ln (v (L V3) 0)) (z I))]
   (.ite (ge (v I 1) (c 0))
    (.guard (le (c 0) (v I 1))
     (.guard (lt (v I 1) (ln (v (L V3) 2)))
      (.guard (ne (add (sub (f (s (ix (v (L V3) 2) (v I 1)))) (f (ix (v (L V3) 2) (v I 1)))) (c 1)) (c 0))
       (.guard (le (c 0) (v I 1))
        (.guard (lt (v I 1) (ln (v (L I) 4)))
         (.guard (ne (add (sub (f (s (ix (v (L V3) 2) (v I 1)))) (f (ix (v (L V3) 2) (v I 1)))) (c 1)) (c 0))
          (.jump 0 [a (quo (v I 0) (add (sub (f (s (ix (v (L V3) 2) (v I 1)))) (f (ix (v (L V3) 2) (v I 1)))) (c 1))), a (sub (v I 1) (c 1)), a (v (L V3) 2), a (v (L TR) 3), a (st (v (L I) 4) (v I 1) (add (f (ix (v (L V3) 2) (v I 1))) (rem (v I 0) (add (sub (f (s (ix (v (L V3) 2) (v I 1)))) (f (ix (v (L V3) 2) (v I 1)))) (c 1)))))])))))))
    (.ret [a (v (L I) 4)]))))
def tr_impl_number : Tr := .loop [a (v (L I) 2), a (c 0), a (v (L V3) 0), a (ln (v (L V3) 0)), a (c 0)]
 (.ite (lt (v I 4) (v I 3))
  (.guard (le (c 0) (v I 4))
   (.guard (lt (v I 4) (ln (v (L V3) 2)))
    (.guard (le (c 0) (v I 4))
     (.guard (lt (v I 4) (ln (v (L I) 0)))
      (.jump 0 [a (v (L I) 0), a (sub (add (mul (v I 1) (add (sub (f (s (ix (v (L V3) 2) (v I 4)))) (f (ix (v (L V3) 2) (v I 4)))) (c 1))) (ix (v (L I) 0) (v I 4))) (f (ix (v (L V3) 2) (v I 4)))), a (v (L V3) 2), a (v I 3), a (add (v I 4) (c 1))])))))
  (.ret [a (v I 1)]))
def tr_impl_reducedNexts : Tr := .call f_impl_stubbornOf [a (v (L V3) 0), a (v (L TR) 1)] 100192
 (.call f_impl_size [a (v (L V3) 0)] 100448
  (.guard (le (c 0) (v I 100448))
   (.guard (le (v I 100448) (c 549755813888))
    (.loop [a (ln (rep (v I 100448) (z (L I)))), a (c 0), a (v (L V3) 0), a (v (L TR) 1), a (f (v (P (L (L B)) (L (L I))) 100192)), a (s (v (P (L (L B)) (L (L I))) 100192)), a (rep (v I 100448) (z (L I)))]
     (.ite (lt (v I 1) (v I 0))
      (.call f_impl_stateAt [a (v (L V3) 2), a (v (L TR) 3), a (v I 1)] 330
       (.call f_impl_stubborn_in [a (pr (v (L (L B)) 4) (v (L (L I)) 5)), a (v (L V3) 2), a (v (L TR) 3), a (v (L I) 330)] 650
        (.loop [a (v I 1), a (v I 0), a (v I 1), a (ln (v (L I) 650)), a (c 0), a (v (L V3) 2), a (v (L TR) 3), a (v (L (L B)) 4), a (v (L (L I)) 5), a (v (L (L I)) 6), a (v (L I) 330), a (v (L I) 650)]
         (.ite (lt (v I 4) (v I 3))
          (.guard (le (c 0) (v I 4))
           (.guard (lt (v I 4) (ln (v (L I) 11)))
            (.call f_impl_use [a (v (L V3) 5), a (v (L TR) 6), a (v (L I) 10), a (ix (v (L I) 11) (v I 4))] 465
             (.guard (le (c 0) (v I 0))
              (.guard (lt (v I 0) (ln (v (L (L I)) 9)))
               (.call f_impl_number [a (v (L V3) 5), a (v (L TR) 6), a (v (L I) 465)] 1361
                (.guard (le (ln (ix (v (L (L I)) 9) (v I 0))) (c 549755813888))
                 (.guard (le (ln (one (v I 1361))) (c 549755813888))
                  (.guard (le (c 0) (v I 0))
                   (.guard (lt (v I 0) (ln (v (L (L I)) 9)))
                    (.jump 0 [a (v I 0), a (v I 1), a (v I 2), a (v I 3), a (add (v I 4) (c 1)), a (v (L V3) 5), a (v (L TR) 6), a (v (L (L B)) 7), a (v (L (L I)) 8), a (st (v (L (L I)) 9) (v I 0) (app (ix (v (L (L I)) 9) (v I 0)) (one (v I 1361)))), a (v (L I) 10), a (v (L I) 11)])))))))))))
          (.guard (le (c 0) (v I 0))
           (.guard (lt (v I 0) (ln (v (L (L I)) 9)))
            (.guard (le (ln (ix (v (L (L I)) 9) (v I 0))) (c 549755813888))
             (.guard (le (c 0) (v I 0))
              (.guard (lt (v I 0) (ln (st (v (L (L I)) 9) (v I 0) (.o1 (.hnd 0) (ix (v (L (L I)) 9) (v I 0))))))
               (.guard (le (ln (ix (st (v (L (L I)) 9) (v I 0) (.o1 (.hnd 0) (ix (v (L (L I)) 9) (v I 0)))) (v I 0))) (c 549755813888))
                (.guard (le (c 0) (v I 0))
                 (.guard (lt (v I 0) (ln (st (v (L (L I)) 9) (v I 0) (.o1 (.hnd 0) (ix (v (L (L I)) 9) (v I 0))))))
                  (.jump 1 [a (v I 1), a (add (v I 2) (c 1)), a (v (L V3) 5), a (v (L TR) 6), a (v (L (L B)) 7), a (v (L (L I)) 8), a (st (st (v (L (L I)) 9) (v I 0) (.o1 (.hnd 0) (ix (v (L (L I)) 9) (v I 0)))) (v I 0) (.o1 (.hnd 1) (ix (st (v (L (L I)) 9) (v I 0) (.o1 (.hnd 0) (ix (v (L (L I)) 9) (v I 0)))) (v I 0))))])))))))))))))
      (.ret [a (v (L (L I)) 6)]))))))
def tr_impl_first : Tr := .loop [a (v (L V3) 0), a (ln (v (L V3) 0)), a (c 0), a (nl I)]
 (.ite (lt (v I 2) (v I 1))
  (.guard (le (c 0) (v I 2))
   (.guard (lt (v I 2) (ln (v (L V3) 0)))
    (.guard (le (ln (v (L I) 3)) (c 549755813888))
     (.guard (le (ln (one (s (s (ix (v (L V3) 0) (v I 2)))))) (c 549755813888))
      (.jump 0 [a (v (L V3) 0), a (v I 1), a (add (v I 2) (c 1)), a (app (v (L I) 3) (one (s (s (ix (v (L V3) 0) (v I 2))))))])))))
  (.call f_impl_clone_int [a (v (L I) 3)] 133
   (.ret [a (v (L I) 133)])))
def tr_impl_reach : Tr := .guard (le (c 0) (ln (v (L (L I)) 0)))
 (.guard (le (ln (v (L (L I)) 0)) (c 549755813888))
  (.guard (le (ln (v (L I) 1)) (c 549755813888))
   (.loop [a (v (L (L I)) 0), a (v (L I) 1), a (ln (v (L I) 1)), a (c 0), a (rep (ln (v (L (L I)) 0)) (z B)), a (v (L I) 1)]
    (.ite (lt (v I 3) (v I 2))
     (.guard (le (c 0) (v I 3))
      (.guard (lt (v I 3) (ln (v (L I) 1)))
       (.guard (le (c 0) (ix (v (L I) 1) (v I 3)))
        (.guard (lt (ix (v (L I) 1) (v I 3)) (ln (v (L B) 4)))
         (.jump 0 [a (v (L (L I)) 0), a (v (L I) 1), a (v I 2), a (add (v I 3) (c 1)), a (st (v (L B) 4) (ix (v (L I) 1) (v I 3)) (k true)), a (v (L I) 5)])))))
     (.loop [a (v (L (L I)) 0), a (v (L B) 4), a (v (L I) 5)]
      (.ite (gt (ln (v (L I) 2)) (c 0))
       (.guard (lt (c 0) (ln (v (L I) 2)))
        (.guard (le (c 1) (ln (v (L I) 2)))
         (.guard (le (c 0) (ix (v (L I) 2) (c 0)))
          (.guard (lt (ix (v (L I) 2) (c 0)) (ln (v (L (L I)) 0)))
           (.loop [a (v (L (L I)) 0), a (ix (v (L (L I)) 0) (ix (v (L I) 2) (c 0))), a (ln (ix (v (L (L I)) 0) (ix (v (L I) 2) (c 0)))), a (c 0), a (v (L B) 1), a (drop (v (L I) 2) (c 1))]
            (.ite (lt (v I 3) (v I 2))
             (.join
              (.guard (le (c 0) (v I 3))
               (.guard (lt (v I 3) (ln (v (L I) 1)))
                (.guard (le (c 0) (ix (v (L I) 1) (v I 3)))
                 (.guard (lt (ix (v (L I) 1) (v I 3)) (ln (v (L B) 4)))
                  (.ite (nt (ix (v (L B) 4) (ix (v (L I) 1) (v I 3))))
                   (.guard (le (c 0) (ix (v (L I) 1) (v I 3)))
                    (.guard (lt (ix (v (L I) 1) (v I 3)) (ln (v (L B) 4)))
                     (.guard (le (ln (v (L I) 5)) (c 549755813888))
                      (.guard (le (ln (one (ix (v (L I) 1) (v I 3)))) (c 549755813888))
                       (.jump 0 [a (v (L (L I)) 0), a (v (L I) 1), a (v I 2), a (v I 3), a (st (v (L B) 4) (ix (v (L I) 1) (v I 3)) (k true)), a (app (v (L I) 5) (one (ix (v (L I) 1) (v I 3))))])))))
                   (.jump 0 [a (v (L (L I)) 0), a (v (L I) 1), a (v I 2), a (v I 3), a (v (L B) 4), a (v (L I) 5)]))))))
              (.jump 0 [a (v (L (L I)) 0), a (v (L I) 1), a (v I 2), a (add (v I 3) (c 1)), a (v (L B) 4), a (v (L I) 5)]))
             (.jump 1 [a (v (L (L I)) 0), a (v (L B) 4), a (v (L I) 5)])))))))
       (.ret [a (v (L B) 1)])))))))
def tr_impl_ReducedReach : Tr := .call f_impl_SystemValid [a (v (L V3) 0), a (v (L TR) 1)] 100192
 (.ite (nt (v B 100192))
  (.ret [a (nl I)])
  (.call f_impl_reducedNexts [a (v (L V3) 0), a (v (L TR) 1)] 100512
   (.call f_impl_first [a (v (L V3) 0), a (v (L TR) 1)] 100576
    (.call f_impl_number [a (v (L V3) 0), a (v (L TR) 1), a (v (L I) 100576)] 100640
     (.call f_impl_reach [a (v (L (L I)) 100512), a (one (v I 100640))] 100768
      (.call f_impl_listOf [a (v (L B) 100768)] 100832
       (.ret [a (v (L I) 100832)])))))))
def tr_laws_eqIntS : Tr := .ite (ne (ln (v (L I) 0)) (ln (v (L I) 1)))
 (.ret [a (k false)])
 (.loop [a (v (L I) 0), a (v (L I) 1), a (c 0)]
  (.ite (lt (v I 2) (ln (v (L I) 0)))
   (.guard (le (c 0) (v I 2))
    (.guard (lt (v I 2) (ln (v (L I) 0)))
     (.guard (le (c 0) (v I 2))
      (.guard (lt (v I 2) (ln (v (L I) 1)))
       (.ite (ne (ix (v (L I) 0) (v I 2)) (ix (v (L I) 1) (v I 2)))
        (.ret [a (k false)])
        (.jump 0 [a (v (L I) 0), a (v (L I) 1), a (add (v I 2) (c 1))]))))))
   (.ret [a (k true)])))
def tr_laws_eqVar : Tr := .ite (ne (v I 0) (v I 3))
 (.ret [a (k false)])
 (.ite (ne (v I 1) (v I 4))
  (.ret [a (k false)])
  (.ite (ne (v I 2) (v I 5))
   (.ret [a (k false)])
   (.ret [a (k true)])))
def tr_laws_eqVarS : Tr := .ite (ne (ln (v (L V3) 0)) (ln (v (L V3) 1)))
 (.ret [a (k false)])
 (.loop [a (v (L V3) 0), a (v (L V3) 1), a (c 0)]
  (.ite (lt (v I 2) (ln (v (L V3) 0)))
   (.guard (le (c 0) (v I 2))
    (.guard (lt (v I 2) (ln (v (L V3) 0)))
     (.guard (le (c 0) (v I 2))
      (.guard (lt (v I 2) (ln (v (L V3) 1)))
       (.call f_laws_eqVar [a (f (ix (v (L V3) 0) (v I 2))), a (f (s (ix (v (L V3) 0) (v I 2)))), a (s (s (ix (v (L V3) 0) (v I 2)))), a (f (ix (v (L V3) 1) (v I 2))), a (f (s (ix (v (L V3) 1) (v I 2)))), a (s (s (ix (v (L V3) 1) (v I 2))))] 771
        (.ite (nt (v B 771))
         (.ret [a (k false)])
         (.jump 0 [a (v (L V3) 0), a (v (L V3) 1), a (add (v I 2) (c 1))])))))))
   (.ret [a (k true)])))
def tr_laws_eqTerm : Tr := .ite (ne (v I 0) (v I 4))
 (.ret [a (k false)])
 (.ite (ne (v I 1) (v I 5))
  (.ret [a (k false)])
  (.ite (ne (v I 2) (v I 6))
   (.ret [a (k false)])
   (.ite (ne (v I 3) (v I 7))
    (.ret [a (k false)])
    (.ret [a (k true)]))))
def tr_laws_eqTermS : Tr := .ite (ne (ln (v (L T4) 0)) (ln (v (L T4) 1)))
 (.ret [a (k false)])
 (.loop [a (v (L T4) 0), a (v (L T4) 1), a (c 0)]
  (.ite (lt (v I 2) (ln (v (L T4) 0)))
   (.guard (le (c 0) (v I 2))
    (.guard (lt (v I 2) (ln (v (L T4) 0)))
     (.guard (le (c 0) (v I 2))
      (.guard (lt (v I 2) (ln (v (L T4) 1)))
       (.call f_laws_eqTerm [a (f (ix (v (L T4) 0) (v I 2))), a (f (s (ix (v (L T4) 0) (v I 2)))), a (f (s (s (ix (v (L T4) 0) (v I 2))))), a (s (s (s (ix (v (L T4) 0) (v I 2))))), a (f (ix (v (L T4) 1) (v I 2))), a (f (s (ix (v (L T4) 1) (v I 2)))), a (f (s (s (ix (v (L T4) 1) (v I 2))))), a (s (s (s (ix (v (L T4) 1) (v I 2)))))] 771
        (.ite (nt (v B 771))
         (.ret [a (k false)])
         (.jump 0 [a (v (L T4) 0), a (v (L T4) 1), a (add (v I 2) (c 1))])))))))
   (.ret [a (k true)])))
def tr_laws_eqTermSS : Tr := .ite (ne (ln (v (L (L T4)) 0)) (ln (v (L (L T4)) 1)))
 (.ret [a (k false)])
 (.loop [a (v (L (L T4)) 0), a (v (L (L T4)) 1), a (c 0)]
  (.ite (lt (v I 2) (ln (v (L (L T4)) 0)))
   (.guard (le (c 0) (v I 2))
    (.guard (lt (v I 2) (ln (v (L (L T4)) 0)))
     (.guard (le (c 0) (v I 2))
      (.guard (lt (v I 2) (ln (v (L (L T4)) 1)))
       (.call f_laws_eqTermS [a (ix (v (L (L T4)) 0) (v I 2)), a (ix (v (L (L T4)) 1) (v I 2))] 771
        (.ite (nt (v B 771))
         (.ret [a (k false)])
         (.jump 0 [a (v (L (L T4)) 0), a (v (L (L T4)) 1), a (add (v I 2) (c 1))])))))))
   (.ret [a (k true)])))
def tr_laws_eqRule : Tr := .call f_laws_eqTermS [a (v (L T4) 0), a (v (L T4) 3)] 100448
 (.ite (nt (v B 100448))
  (.ret [a (k false)])
  (.call f_laws_eqIntS [a (v (L I) 1), a (v (L I) 4)] 100832
   (.ite (nt (v B 100832))
    (.ret [a (k false)])
    (.call f_laws_eqTermSS [a (v (L (L T4)) 2), a (v (L (L T4)) 5)] 101216
     (.ite (nt (v B 101216))
      (.ret [a (k false)])
      (.ret [a (k true)]))))))
def tr_laws_eqRuleS : Tr := .ite (ne (ln (v (L TR) 0)) (ln (v (L TR) 1)))
 (.ret [a (k false)])
 (.loop [a (v (L TR) 0), a (v (L TR) 1), a (c 0)]
  (.ite (lt (v I 2) (ln (v (L TR) 0)))
   (.guard (le (c 0) (v I 2))
    (.guard (lt (v I 2) (ln (v (L TR) 0)))
     (.guard (le (c 0) (v I 2))
      (.guard (lt (v I 2) (ln (v (L TR) 1)))
       (.call f_laws_eqRule [a (f (ix (v (L TR) 0) (v I 2))), a (f (s (ix (v (L TR) 0) (v I 2)))), a (s (s (ix (v (L TR) 0) (v I 2)))), a (f (ix (v (L TR) 1) (v I 2))), a (f (s (ix (v (L TR) 1) (v I 2)))), a (s (s (ix (v (L TR) 1) (v I 2))))] 771
        (.ite (nt (v B 771))
         (.ret [a (k false)])
         (.jump 0 [a (v (L TR) 0), a (v (L TR) 1), a (add (v I 2) (c 1))])))))))
   (.ret [a (k true)])))
def tr_laws_eqSystem : Tr := .call f_laws_eqVarS [a (v (L V3) 0), a (v (L V3) 2)] 100448
 (.ite (nt (v B 100448))
  (.ret [a (k false)])
  (.call f_laws_eqRuleS [a (v (L TR) 1), a (v (L TR) 3)] 100832
   (.ite (nt (v B 100832))
    (.ret [a (k false)])
    (.ret [a (k true)]))))
def tr_laws_markVarS : Tr := .loop [a (v I 1), a (c 0), a (v (L V3) 0)]
 (.ite (lt (v I 1) (ln (v (L V3) 2)))
  (.guard (le (c 0) (v I 1))
   (.guard (lt (v I 1) (ln (v (L V3) 2)))
    (.guard (le (c 0) (v I 1))
     (.guard (lt (v I 1) (ln (st (v (L V3) 2) (v I 1) (pr (v I 0) (s (ix (v (L V3) 2) (v I 1)))))))
      (.guard (le (c 0) (v I 1))
       (.guard (lt (v I 1) (ln (st (st (v (L V3) 2) (v I 1) (pr (v I 0) (s (ix (v (L V3) 2) (v I 1))))) (v I 1) (pr (f (ix (st (v (L V3) 2) (v I 1) (pr (v I 0) (s (ix (v (L V3) 2) (v I 1))))) (v I 1))) (pr (add (v I 0) (c 1)) (s (s (ix (st (v (L V3) 2) (v I 1) (pr (v I 0) (s (ix (v (L V3) 2) (v I 1))))) (v I 1)))))))))
        (.jump 0 [a (add (add (add (v I 0) (c 1)) (c 1)) (c 1)), a (add (v I 1) (c 1)), a (st (st (st (v (L V3) 2) (v I 1) (pr (v I 0) (s (ix (v (L V3) 2) (v I 1))))) (v I 1) (pr (f (ix (st (v (L V3) 2) (v I 1) (pr (v I 0) (s (ix (v (L V3) 2) (v I 1))))) (v I 1))) (pr (add (v I 0) (c 1)) (s (s (ix (st (v (L V3) 2) (v I 1) (pr (v I 0) (s (ix (v (L V3) 2) (v I 1))))) (v I 1))))))) (v I 1) (pr (f (ix (st (st (v (L V3) 2) (v I 1) (pr (v I 0) (s (ix (v (L V3) 2) (v I 1))))) (v I 1) (pr (f (ix (st (v (L V3) 2) (v I 1) (pr (v I 0) (s (ix (v (L V3) 2) (v I 1))))) (v I 1))) (pr (add (v I 0) (c 1)) (s (s (ix (st (v (L V3) 2) (v I 1) (pr (v I 0) (s (ix (v (L V3) 2) (v I 1))))) (v I 1))))))) (v I 1))) (pr (f (s (ix (st (st (v (L V3) 2) (v I 1) (pr (v I 0) (s (ix (v (L V3) 2) (v I 1))))) (v I 1) (pr (f (ix (st (v (L V3) 2) (v I 1) (pr (v I 0) (s (ix (v (L V3) 2) (v I 1))))) (v I 1))) (pr (add (v I 0) (c 1)) (s (s (ix (st (v (L V3) 2) (v I 1) (pr (v I 0) (s (ix (v (L V3) 2) (v I 1))))) (v I 1))))))) (v I 1)))) (add (add (v I 0) (c 1)) (c 1)))))])))))))
  (.ret [a (v I 0), a (v (L V3) 2)]))
def tr_laws_markTermS : Tr := .loop [a (v I 1), a (c 0), a (v (L T4) 0)]
 (.ite (lt (v I 1) (ln (v (L T4) 2)))
  (.guard (le (c 0) (v I 1))
   (.guard (lt (v I 1) (ln (v (L T4) 2)))
    (.guard (le (c 0) (v I 1))
     (.guard (lt (v I 1) (ln (st (v (L T4) 2) (v I 1) (pr (v I 0) (s (ix (v (L T4) 2) (v I 1)))))))
      (.guard (le (c 0) (v I 1))
       (.guard (lt (v I 1) (ln (st (st (v (L T4) 2) (v I 1) (pr (v I 0) (s (ix (v (L T4) 2) (v I 1))))) (v I 1) (pr (f (ix (st (v (L T4) 2) (v I 1) (pr (v I 0) (s (ix (v (L T4) 2) (v I 1))))) (v I 1))) (pr (add (v I 0) (c 1)) (s (s (ix (st (v (L T4) 2) (v I 1) (pr (v I 0) (s (ix (v (L T4) 2) (v I 1))))) (v I 1)))))))))
        (.guard (le (c 0) (v I 1))
         (.guard (lt (v I 1) (ln (st (st (st (v (L T4) 2) (v I 1) (pr (v I 0) (s (ix (v (L T4) 2) (v I 1))))) (v I 1) (pr (f (ix (st (v (L T4) 2) (v I 1) (pr (v I 0) (s (ix (v (L T4) 2) (v I 1))))) (v I 1))) (pr (add (v I 0) (c 1)) (s (s (ix (st (v (L T4) 2) (v I 1) (pr (v I 0) (s (ix (v (L T4) 2) (v I 1))))) (v I 1))))))) (v I 1) (pr (f (ix (st (st (v (L T4) 2) (v I 1) (pr (v I 0) (s (ix (v (L T4) 2) (v I 1))))) (v I 1) (pr (f (ix (st (v (L T4) 2) (v I 1) (pr (v I 0) (s (ix (v (L T4) 2) (v I 1))))) (v I 1))) (pr (add (v I 0) (c 1)) (s (s (ix (st (v (L T4) 2) (v I 1) (pr (v I 0) (s (ix (v (L T4) 2) (v I 1))))) (v I 1))))))) (v I 1))) (pr (f (s (ix (st (st (v (L T4) 2) (v I 1) (pr (v I 0) (s (ix (v (L T4) 2) (v I 1))))) (v I 1) (pr (f (ix (st (v (L T4) 2) (v I 1) (pr (v I 0) (s (ix (v (L T4) 2) (v I 1))))) (v I 1))) (pr (add (v I 0) (c 1)) (s (s (ix (st (v (L T4) 2) (v I 1) (pr (v I 0) (s (ix (v (L T4) 2) (v I 1))))) (v I 1))))))) (v I 1)))) (pr (add (add (v I 0) (c 1)) (c 1)) (s (s (s (ix (st (st (v (L T4) 2) (v I 1) (pr (v I 0) (s (ix (v (L T4) 2) (v I 1))))) (v I 1) (pr (f (ix (st (v (L T4) 2) (v I 1) (pr (v I 0) (s (ix (v (L T4) 2) (v I 1))))) (v I 1))) (pr (add (v I 0) (c 1)) (s (s (ix (st (v (L T4) 2) (v I 1) (pr (v I 0) (s (ix (v (L T4) 2) (v I 1))))) (v I 1))))))) (v I 1)))))))))))
          (.jump 0 [a (add (add (add (add (v I 0) (c 1)) (c 1)) (c 1)) (c 1)), a (add (v I 1) (c 1)), a (st (st (st (st (v (L T4) 2) (v I 1) (pr (v I 0) (s (ix (v (L T4) 2) (v I 1))))) (v I 1) (pr (f (ix (st (v (L T4) 2) (v I 1) (pr (v I 0) (s (ix (v (L T4) 2) (v I 1))))) (v I 1))) (pr (add (v I 0) (c 1)) (s (s (ix (st (v (L T4) 2) (v I 1) (pr (v I 0) (s (ix (v (L T4) 2) (v I 1))))) (v I 1))))))) (v I 1) (pr (f (ix (st (st (v (L T4) 2) (v I 1) (pr (v I 0) (s (ix (v (L T4) 2) (v I 1))))) (v I 1) (pr (f (ix (st (v (L T4) 2) (v I 1) (pr (v I 0) (s (ix (v (L T4) 2) (v I 1))))) (v I 1))) (pr (add (v I 0) (c 1)) (s (s (ix (st (v (L T4) 2) (v I 1) (pr (v I 0) (s (ix (v (L T4) 2) (v I 1))))) (v I 1))))))) (v I 1))) (pr (f (s (ix (st (st (v (L T4) 2) (v I 1) (pr (v I 0) (s (ix (v (L T4) 2) (v I 1))))) (v I 1) (pr (f (ix (st (v (L T4) 2) (v I 1) (pr (v I 0) (s (ix (v (L T4) 2) (v I 1))))) (v I 1))) (pr (add (v I 0) (c 1)) (s (s (ix (st (v (L T4) 2) (v I 1) (pr (v I 0) (s (ix (v (L T4) 2) (v I 1))))) (v I 1))))))) (v I 1)))) (pr (add (add (v I 0) (c 1)) (c 1)) (s (s (s (ix (st (st (v (L T4) 2) (v I 1) (pr (v I 0) (s (ix (v (L T4) 2) (v I 1))))) (v I 1) (pr (f (ix (st (v (L T4) 2) (v I 1) (pr (v I 0) (s (ix (v (L T4) 2) (v I 1))))) (v I 1))) (pr (add (v I 0) (c 1)) (s (s (ix (st (v (L T4) 2) (v I 1) (pr (v I 0) (s (ix (v (L T4) 2) (v I 1))))) (v I 1))))))) (v I 1))))))))) (v I 1) (pr (f (ix (st (st (st (v (L T4) 2) (v I 1) (pr (v I 0) (s (ix (v (L T4) 2) (v I 1))))) (v I 1) (pr (f (ix (st (v (L T4) 2) (v I 1) (pr (v I 0) (s (ix (v (L T4) 2) (v I 1))))) (v I 1))) (pr (add (v I 0) (c 1)) (s (s (ix (st (v (L T4) 2) (v I 1) (pr (v I 0) (s (ix (v (L T4) 2) (v I 1))))) (v I 1))))))) (v I 1) (pr (f (ix (st (st (v (L T4) 2) (v I 1) (pr (v I 0) (s (ix (v (L T4) 2) (v I 1))))) (v I 1) (pr (f (ix (st (v (L T4) 2) (v I 1) (pr (v I 0) (s (ix (v (L T4) 2) (v I 1))))) (v I 1))) (pr (add (v I 0) (c 1)) (s (s (ix (st (v (L T4) 2) (v I 1) (pr (v I 0) (s (ix (v (L T4) 2) (v I 1))))) (v I 1))))))) (v I 1))) (pr (f (s (ix (st (st (v (L T4) 2) (v I 1) (pr (v I 0) (s (ix (v (L T4) 2) (v I 1))))) (v I 1) (pr (f (ix (st (v (L T4) 2) (v I 1) (pr (v I 0) (s (ix (v (L T4) 2) (v I 1))))) (v I 1))) (pr (add (v I 0) (c 1)) (s (s (ix (st (v (L T4) 2) (v I 1) (pr (v I 0) (s (ix (v (L T4) 2) (v I 1))))) (v I 1))))))) (v I 1)))) (pr (add (add (v I 0) (c 1)) (c 1)) (s (s (s (ix (st (st (v (L T4) 2) (v I 1) (pr (v I 0) (s (ix (v (L T4) 2) (v I 1))))) (v I 1) (pr (f (ix (st (v (L T4) 2) (v I 1) (pr (v I 0) (s (ix (v (L T4) 2) (v I 1))))) (v I 1))) (pr (add (v I 0) (c 1)) (s (s (ix (st (v (L T4) 2) (v I 1) (pr (v I 0) (s (ix (v (L T4) 2) (v I 1))))) (v I 1))))))) (v I 1))))))))) (v I 1))) (pr (f (s (ix (st (st (st (v (L T4) 2) (v I 1) (pr (v I 0) (s (ix (v (L T4) 2) (v I 1))))) (v I 1) (pr (f (ix (st (v (L T4) 2) (v I 1) (pr (v I 0) (s (ix (v (L T4) 2) (v I 1))))) (v I 1))) (pr (add (v I 0) (c 1)) (s (s (ix (st (v (L T4) 2) (v I 1) (pr (v I 0) (s (ix (v (L T4) 2) (v I 1))))) (v I 1))))))) (v I 1) (pr (f (ix (st (st (v (L T4) 2) (v I 1) (pr (v I 0) (s (ix (v (L T4) 2) (v I 1))))) (v I 1) (pr (f (ix (st (v (L T4) 2) (v I 1) (pr (v I 0) (s (ix (v (L T4) 2) (v I 1))))) (v I 1))) (pr (add (v I 0) (c 1)) (s (s (ix (st (v (L T4) 2) (v I 1) (pr (v I 0) (s (ix (v (L T4) 2) (v I 1))))) (v I 1))))))) (v I 1))) (pr (f (s (ix (st (st (v (L T4) 2) (v I 1) (pr (v I 0) (s (ix (v (L T4) 2) (v I 1))))) (v I 1) (pr (f (ix (st (v (L T4) 2) (v I 1) (pr (v I 0) (s (ix (v (L T4) 2) (v I 1))))) (v I 1))) (pr (add (v I 0) (c 1)) (s (s (ix (st (v (L T4) 2) (v I 1) (pr (v I 0) (s (ix (v (L T4) 2) (v I 1))))) (v I 1))))))) (v I 1)))) (pr (add (add (v I 0) (c 1)) (c 1)) (s (s (s (ix (st (st (v (L T4) 2) (v I 1) (pr (v I 0) (s (ix (v (L T4) 2) (v I 1))))) (v I 1) (pr (f (ix (st (v (L T4) 2) (v I 1) (pr (v I 0) (s (ix (v (L T4) 2) (v I 1))))) (v I 1))) (pr (add (v I 0) (c 1)) (s (s (ix (st (v (L T4) 2) (v I 1) (pr (v I 0) (s (ix (v (L T4) 2) (v I 1))))) (v I 1))))))) (v I 1))))))))) (v I 1)))) (pr (f (s (s (ix (st (st (st (v (L T4) 2) (v I 1) (pr (v I 0) (s (ix (v (L T4) 2) (v I 1))))) (v I 1) (pr (f (ix (st (v (L T4) 2) (v I 1) (pr (v I 0) (s (ix (v (L T4) 2) (v I 1))))) (v I 1))) (pr (add (v I 0) (c 1)) (s (s (ix (st (v (L T4) 2) (v I 1) (pr (v I 0) (s (ix (v (L T4) 2) (v I 1))))) (v I 1))))))) (v I 1) (pr (f (ix (st (st (v (L T4) 2) (v I 1) (pr (v I 0) (s (ix (v (L T4) 2) (v I 1))))) (v I 1) (pr (f (ix (st (v (L T4) 2) (v I 1) (pr (v I 0) (s (ix (v (L T4) 2) (v I 1))))) (v I 1))) (pr (add (v I 0) (c 1)) (s (s (ix (st (v (L T4) 2) (v I 1) (pr (v I 0) (s (ix (v (L T4) 2) (v I 1))))) (v I 1))))))) (v I 1))) (pr (f (s (ix (st (st (v (L T4) 2) (v I 1) (pr (v I 0) (s (ix (v (L T4) 2) (v I 1))))) (v I 1) (pr (f (ix (st (v (L T4) 2) (v I 1) (pr (v I 0) (s (ix (v (L T4) 2) (v I 1))))) (v I 1))) (pr (add (v I 0) (c 1)) (s (s (ix (st (v (L T4) 2) (v I 1) (pr (v I 0) (s (ix (v (L T4) 2) (v I 1))))) (v I 1))))))) (v I 1)))) (pr (add (add (v I 0) (c 1)) (c 1)) (s (s (s (ix (st (st (v (L T4) 2) (v I 1) (pr (v I 0) (s (ix (v (L T4) 2) (v I 1))))) (v I 1) (pr (f (ix (st (v (L T4) 2) (v I 1) (pr (v I 0) (s (ix (v (L T4) 2) (v I 1))))) (v I 1))) (pr (add (v I 0) (c 1)) (s (s (ix (st (v (L T4) 2) (v I 1) (pr (v I 0) (s (ix (v (L T4) 2) (v I 1))))) (v I 1))))))) (v I 1))))))))) (v I 1))))) (add (add (add (v I 0) (c 1)) (c 1)) (c 1))))))])))))))))
  (.ret [a (v I 0), a (v (L T4) 2)]))
end Go.Proofs.YthapopegchnhlabGreat
namespace Go.Proofs.YthapopegchnhlabGreat
open Go Go.Sm Go.Sm.Q
def tr_laws_markIntS : Tr := .loop [a (v I 1), a (c 0), a (v (L I) 0)]
 (.ite (lt (v I 1) (ln (v (L I) 2)))
  (.guard (le (c 0) (v I 1))
   (.guard (lt (v I 1) (ln (v (L I) 2)))
    (.jump 0 [a (add (v I 0) (c 1)), a (add (v I 1) (c 1)), a (st (v (L I) 2) (v I 1) (v I 0))])))
  (.ret [a (v I 0), a (v (L I) 2)]))
def tr_laws_markTermSS : Tr := .loop [a (v I 1), a (c 0), a (v (L (L T4)) 0)]
 (.ite (lt (v I 1) (ln (v (L (L T4)) 2)))
  (.guard (le (c 0) (v I 1))
   (.guard (lt (v I 1) (ln (v (L (L T4)) 2)))
    (.call f_laws_markTermS [a (ix (v (L (L T4)) 2) (v I 1)), a (v I 0)] 580
     (.jump 0 [a (v I 580), a (add (v I 1) (c 1)), a (st (v (L (L T4)) 2) (v I 1) (v (L T4) 581))]))))
  (.ret [a (v I 0), a (v (L (L T4)) 2)]))
def tr_laws_markRuleS : Tr := .loop [a (v I 1), a (c 0), a (v (L TR) 0)]
 (.ite (lt (v I 1) (ln (v (L TR) 2)))
  (.guard (le (c 0) (v I 1))
   (.guard (lt (v I 1) (ln (v (L TR) 2)))
    (.call f_laws_markTermS [a (f (ix (v (L TR) 2) (v I 1))), a (v I 0)] 644
     (.guard (le (c 0) (v I 1))
      (.guard (lt (v I 1) (ln (st (v (L TR) 2) (v I 1) (pr (v (L T4) 645) (s (ix (v (L TR) 2) (v I 1)))))))
       (.call f_laws_markIntS [a (f (s (ix (st (v (L TR) 2) (v I 1) (pr (v (L T4) 645) (s (ix (v (L TR) 2) (v I 1))))) (v I 1)))), a (v I 644)] 1156
        (.guard (le (c 0) (v I 1))
         (.guard (lt (v I 1) (ln (st (st (v (L TR) 2) (v I 1) (pr (v (L T4) 645) (s (ix (v (L TR) 2) (v I 1))))) (v I 1) (pr (f (ix (st (v (L TR) 2) (v I 1) (pr (v (L T4) 645) (s (ix (v (L TR) 2) (v I 1))))) (v I 1))) (pr (v (L I) 1157) (s (s (ix (st (v (L TR) 2) (v I 1) (pr (v (L T4) 645) (s (ix (v (L TR) 2) (v I 1))))) (v I 1)))))))))
          (.call f_laws_markTermSS [a (s (s (ix (st (st (v (L TR) 2) (v I 1) (pr (v (L T4) 645) (s (ix (v (L TR) 2) (v I 1))))) (v I 1) (pr (f (ix (st (v (L TR) 2) (v I 1) (pr (v (L T4) 645) (s (ix (v (L TR) 2) (v I 1))))) (v I 1))) (pr (v (L I) 1157) (s (s (ix (st (v (L TR) 2) (v I 1) (pr (v (L T4) 645) (s (ix (v (L TR) 2) (v I 1))))) (v I 1))))))) (v I 1)))), a (v I 1156)] 1668
           (.jump 0 [a (v I 1668), a (add (v I 1) (c 1)), a (st (st (st (v (L TR) 2) (v I 1) (pr (v (L T4) 645) (s (ix (v (L TR) 2) (v I 1))))) (v I 1) (pr (f (ix (st (v (L TR) 2) (v I 1) (pr (v (L T4) 645) (s (ix (v (L TR) 2) (v I 1))))) (v I 1))) (pr (v (L I) 1157) (s (s (ix (st (v (L TR) 2) (v I 1) (pr (v (L T4) 645) (s (ix (v (L TR) 2) (v I 1))))) (v I 1))))))) (v I 1) (pr (f (ix (st (st (v (L TR) 2) (v I 1) (pr (v (L T4) 645) (s (ix (v (L TR) 2) (v I 1))))) (v I 1) (pr (f (ix (st (v (L TR) 2) (v I 1) (pr (v (L T4) 645) (s (ix (v (L TR) 2) (v I 1))))) (v I 1))) (pr (v (L I) 1157) (s (s (ix (st (v (L TR) 2) (v I 1) (pr (v (L T4) 645) (s (ix (v (L TR) 2) (v I 1))))) (v I 1))))))) (v I 1))) (pr (f (s (ix (st (st (v (L TR) 2) (v I 1) (pr (v (L T4) 645) (s (ix (v (L TR) 2) (v I 1))))) (v I 1) (pr (f (ix (st (v (L TR) 2) (v I 1) (pr (v (L T4) 645) (s (ix (v (L TR) 2) (v I 1))))) (v I 1))) (pr (v (L I) 1157) (s (s (ix (st (v (L TR) 2) (v I 1) (pr (v (L T4) 645) (s (ix (v (L TR) 2) (v I 1))))) (v I 1))))))) (v I 1)))) (v (L (L T4)) 1669))))]))))))))))
  (.ret [a (v I 0), a (v (L TR) 2)]))
def tr_laws_markSystem : Tr := .call f_laws_markVarS [a (v (L V3) 0), a (v I 2)] 100320
 (.call f_laws_markRuleS [a (v (L TR) 1), a (v I 100320)] 100640
  (.ret [a (v I 100640), a (v (L V3) 100321), a (v (L TR) 100641)]))
def tr_laws_heldIntS : Tr := .loop [a (v (L I) 0), a (v I 1), a (c 0)]
 (.ite (lt (v I 2) (ln (v (L I) 0)))
  (.guard (le (c 0) (v I 2))
   (.guard (lt (v I 2) (ln (v (L I) 0)))
    (.ite (ne (ix (v (L I) 0) (v I 2)) (v I 1))
     (.ret [a (c (-1))])
     (.jump 0 [a (v (L I) 0), a (add (v I 1) (c 1)), a (add (v I 2) (c 1))]))))
  (.ret [a (v I 1)]))
def tr_laws_FnExactReducedReach : Tr := .call f_laws_szSystem [a (v (L V3) 0), a (v (L TR) 1), a (c 1048576)] 100320
 (.ite (lt (v I 100320) (c 0))
  (.ret [a (k true)])
  (.call f_laws_toSystem [a (v (L V3) 0), a (v (L TR) 1)] 100640
   (.call f_spec_ReducedReach [a (v (L V3) 100640), a (v (L TR) 100641)] 100704
    (.call f_laws_toSystem [a (v (L V3) 0), a (v (L TR) 1)] 100896
     (.call f_impl_ReducedReach [a (v (L V3) 100896), a (v (L TR) 100897)] 101152
      (.call f_laws_eqIntS [a (v (L I) 101152), a (v (L I) 100704)] 101408
       (.ite (nt (v B 101408))
        (.ret [a (k false)])
        (.call f_laws_toSystem [a (v (L V3) 0), a (v (L TR) 1)] 101664
         (.call f_laws_eqSystem [a (v (L V3) 100896), a (v (L TR) 100897), a (v (L V3) 101664), a (v (L TR) 101665)] 101728
          (.ite (nt (v B 101728))
           (.ret [a (k false)])
           (.call f_laws_markSystem [a (v (L V3) 100896), a (v (L TR) 100897), a (c 1)] 102048
            (.ite (lt (v I 102048) (c 0))
             (.ret [a (k false)])
             (.call f_laws_eqIntS [a (v (L I) 101152), a (v (L I) 100704)] 102496
              (.ite (nt (v B 102496))
               (.ret [a (k false)])
               (.call f_laws_markIntS [a (v (L I) 101152), a (c 1)] 102880
                (.call f_laws_heldIntS [a (v (L I) 102881), a (c 1)] 103200
                 (.ite (lt (v I 103200) (c 0))
                  (.ret [a (k false)])
                  (.ite (ne (v I 103200) (v I 102880))
                   (.ret [a (k false)])
                   (.call f_laws_toSystem [a (v (L V3) 0), a (v (L TR) 1)] 103712
                    (.call f_impl_ReducedReach [a (v (L V3) 103712), a (v (L TR) 103713)] 103776
                     (.call f_laws_eqIntS [a (v (L I) 103776), a (v (L I) 100704)] 104032
                      (.ite (nt (v B 104032))
                       (.ret [a (k false)])
                       (.call f_laws_heldIntS [a (v (L I) 102881), a (c 1)] 104352
                        (.ite (lt (v I 104352) (c 0))
                         (.ret [a (k false)])
                         (.ite (ne (v I 104352) (v I 102880))
                          (.ret [a (k false)])
                          (.ret [a (k true)]))))))))))))))))))))))))))
end Go.Proofs.YthapopegchnhlabGreat
namespace Go.Proofs.YthapopegchnhlabGreat
open Go Go.Sm Go.Sm.Q
set_option maxRecDepth 100000
def trL : List (Nat × Tr) := [
(f_spec_l1In, tr_spec_l1In),
(f_spec_l1One, tr_spec_l1One),
(f_spec_l1Kind, tr_spec_l1Kind),
(f_spec_KindsOf, tr_spec_KindsOf),
(f_spec_TermsValid, tr_spec_TermsValid),
(f_impl_in, tr_impl_in),
(f_impl_varOk, tr_impl_varOk),
(f_impl_size, tr_impl_size),
(f_impl_parts, tr_impl_parts),
(f_impl_kindsOf, tr_impl_kindsOf),
(f_impl_kindOf, tr_impl_kindOf),
(f_impl_ruleOk, tr_impl_ruleOk),
(f_impl_SystemValid, tr_impl_SystemValid),
(f_impl_inRange, tr_impl_inRange),
(f_slices_Index_Sint_int, tr_slices_Index_Sint_int),
(f_slices_Contains_Sint_int, tr_slices_Contains_Sint_int),
(f_impl_meets, tr_impl_meets),
(f_impl_clone_int, tr_impl_clone_int),
(f_impl_usedBy, tr_impl_usedBy),
(f_math_bits_Len32, tr_math_bits_Len32),
(f_math_bits_Len64, tr_math_bits_Len64),
(f_math_bits_Len, tr_math_bits_Len),
(f_cmp_isNaN_int, tr_cmp_isNaN_int),
(f_cmp_Less_int, tr_cmp_Less_int),
(f_slices_insertionSortOrdered_int, tr_slices_insertionSortOrdered_int),
(f_slices_siftDownOrdered_int, tr_slices_siftDownOrdered_int),
(f_slices_heapSortOrdered_int, tr_slices_heapSortOrdered_int),
(f_slices_nextPowerOfTwo, tr_slices_nextPowerOfTwo),
(f_slices_xorshift_Next, tr_slices_xorshift_Next),
(f_slices_breakPatternsOrdered_int, tr_slices_breakPatternsOrdered_int),
(f_slices_order2Ordered_int, tr_slices_order2Ordered_int),
(f_slices_medianOrdered_int, tr_slices_medianOrdered_int),
(f_slices_medianAdjacentOrdered_int, tr_slices_medianAdjacentOrdered_int),
(f_slices_choosePivotOrdered_int, tr_slices_choosePivotOrdered_int),
(f_slices_reverseRangeOrdered_int, tr_slices_reverseRangeOrdered_int),
(f_slices_partialInsertionSortOrdered_int, tr_slices_partialInsertionSortOrdered_int),
(f_slices_partitionEqualOrdered_int, tr_slices_partitionEqualOrdered_int),
(f_slices_partitionOrdered_int, tr_slices_partitionOrdered_int),
(f_slices_pdqsortOrdered_int, tr_slices_pdqsortOrdered_int),
(f_impl_touchedBy, tr_impl_touchedBy),
(f_impl_rulesApart, tr_impl_rulesApart),
(f_impl_wakersOf, tr_impl_wakersOf),
(f_impl_stubbornOf, tr_impl_stubbornOf),
(f_impl_held, tr_impl_held),
(f_impl_bit, tr_impl_bit),
(f_impl_do, tr_impl_do),
(f_impl_eval, tr_impl_eval),
(f_impl_use, tr_impl_use),
(f_impl_usableIn, tr_impl_usableIn),
(f_impl_marks, tr_impl_marks),
(f_impl_stubborn_from, tr_impl_stubborn_from),
(f_impl_listOf, tr_impl_listOf),
(f_spec_l2Var, tr_spec_l2Var),
(f_spec_l2Is, tr_spec_l2Is),
(f_spec_l2Rule, tr_spec_l2Rule),
(f_spec_SystemValid, tr_spec_SystemValid),
(f_spec_l2In, tr_spec_l2In),
(f_spec_l1Held, tr_spec_l1Held),
(f_spec_l1Truth, tr_spec_l1Truth),
(f_spec_l1Do, tr_spec_l1Do),
(f_spec_l1Values, tr_spec_l1Values),
(f_spec_l2Last, tr_spec_l2Last),
(f_spec_l2Use, tr_spec_l2Use),
(f_spec_l1Needed, tr_spec_l1Needed),
(f_spec_UsedBy, tr_spec_UsedBy),
(f_spec_l2Has, tr_spec_l2Has),
(f_spec_TouchedBy, tr_spec_TouchedBy),
(f_spec_l26Meet, tr_spec_l26Meet),
(f_spec_l26Apart, tr_spec_l26Apart),
(f_spec_l26Wakers, tr_spec_l26Wakers),
(f_spec_l4List, tr_spec_l4List),
(f_spec_l26From, tr_spec_l26From),
(f_impl_stubborn_in, tr_impl_stubborn_in),
(f_spec_l26Usable, tr_spec_l26Usable),
(f_spec_l26Best, tr_spec_l26Best),
(f_laws_szVarS, tr_laws_szVarS),
(f_laws_szTermS, tr_laws_szTermS),
(f_laws_szIntS, tr_laws_szIntS),
(f_laws_szTermSS, tr_laws_szTermSS),
(f_laws_szRule, tr_laws_szRule),
(f_laws_szRuleS, tr_laws_szRuleS),
(f_laws_szSystem, tr_laws_szSystem),
(f_laws_toVar, tr_laws_toVar),
(f_laws_toVarS, tr_laws_toVarS),
(f_laws_toTerm, tr_laws_toTerm),
(f_laws_toTermS, tr_laws_toTermS),
(f_laws_toIntS, tr_laws_toIntS),
(f_laws_toTermSS, tr_laws_toTermSS),
(f_laws_toRule, tr_laws_toRule),
(f_laws_toRuleS, tr_laws_toRuleS),
(f_laws_toSystem, tr_laws_toSystem),
(f_spec_SizeOf, tr_spec_SizeOf),
(f_spec_FirstState, tr_spec_FirstState),
(f_spec_l3Copy, tr_spec_l3Copy),
(f_spec_l4State, tr_spec_l4State),
(f_spec_l4Number, tr_spec_l4Number),
(f_spec_l17Ordered, tr_spec_l17Ordered),
(f_spec_l26Steps, tr_spec_l26Steps),
(f_spec_l4Marks, tr_spec_l4Marks),
(f_spec_l5First, tr_spec_l5First),
(f_spec_l5Steps, tr_spec_l5Steps),
(f_spec_l5Told, tr_spec_l5Told),
(f_spec_ReducedReach, tr_spec_ReducedReach),
(f_impl_stateAt, tr_impl_stateAt),
(f_impl_number, tr_impl_number),
(f_impl_reducedNexts, tr_impl_reducedNexts),
(f_impl_first, tr_impl_first),
(f_impl_reach, tr_impl_reach),
(f_impl_ReducedReach, tr_impl_ReducedReach),
(f_laws_eqIntS, tr_laws_eqIntS),
(f_laws_eqVar, tr_laws_eqVar),
(f_laws_eqVarS, tr_laws_eqVarS),
(f_laws_eqTerm, tr_laws_eqTerm),
(f_laws_eqTermS, tr_laws_eqTermS),
(f_laws_eqTermSS, tr_laws_eqTermSS),
(f_laws_eqRule, tr_laws_eqRule),
(f_laws_eqRuleS, tr_laws_eqRuleS),
(f_laws_eqSystem, tr_laws_eqSystem),
(f_laws_markVarS, tr_laws_markVarS),
(f_laws_markTermS, tr_laws_markTermS),
(f_laws_markIntS, tr_laws_markIntS),
(f_laws_markTermSS, tr_laws_markTermSS),
(f_laws_markRuleS, tr_laws_markRuleS),
(f_laws_markSystem, tr_laws_markSystem),
(f_laws_heldIntS, tr_laws_heldIntS),
(f_laws_FnExactReducedReach, tr_laws_FnExactReducedReach)]
def haL : List Nat := []
def mc : Mc := ⟨fun f => (trL.find? (·.1 == f)).map (·.2), fun f ins => if haL.contains f then some ins else none⟩
theorem F_spec_l1In : mc.F f_spec_l1In = some tr_spec_l1In := rfl
theorem F_spec_l1One : mc.F f_spec_l1One = some tr_spec_l1One := rfl
theorem F_spec_l1Kind : mc.F f_spec_l1Kind = some tr_spec_l1Kind := rfl
theorem F_spec_KindsOf : mc.F f_spec_KindsOf = some tr_spec_KindsOf := rfl
theorem F_spec_TermsValid : mc.F f_spec_TermsValid = some tr_spec_TermsValid := rfl
theorem F_impl_in : mc.F f_impl_in = some tr_impl_in := rfl
theorem F_impl_varOk : mc.F f_impl_varOk = some tr_impl_varOk := rfl
theorem F_impl_size : mc.F f_impl_size = some tr_impl_size := rfl
theorem F_impl_parts : mc.F f_impl_parts = some tr_impl_parts := rfl
theorem F_impl_kindsOf : mc.F f_impl_kindsOf = some tr_impl_kindsOf := rfl
theorem F_impl_kindOf : mc.F f_impl_kindOf = some tr_impl_kindOf := rfl
theorem F_impl_ruleOk : mc.F f_impl_ruleOk = some tr_impl_ruleOk := rfl
theorem F_impl_SystemValid : mc.F f_impl_SystemValid = some tr_impl_SystemValid := rfl
theorem F_impl_inRange : mc.F f_impl_inRange = some tr_impl_inRange := rfl
theorem F_slices_Index_Sint_int : mc.F f_slices_Index_Sint_int = some tr_slices_Index_Sint_int := rfl
theorem F_slices_Contains_Sint_int : mc.F f_slices_Contains_Sint_int = some tr_slices_Contains_Sint_int := rfl
theorem F_impl_meets : mc.F f_impl_meets = some tr_impl_meets := rfl
theorem F_impl_clone_int : mc.F f_impl_clone_int = some tr_impl_clone_int := rfl
theorem F_impl_usedBy : mc.F f_impl_usedBy = some tr_impl_usedBy := rfl
theorem F_math_bits_Len32 : mc.F f_math_bits_Len32 = some tr_math_bits_Len32 := rfl
theorem F_math_bits_Len64 : mc.F f_math_bits_Len64 = some tr_math_bits_Len64 := rfl
theorem F_math_bits_Len : mc.F f_math_bits_Len = some tr_math_bits_Len := rfl
theorem F_cmp_isNaN_int : mc.F f_cmp_isNaN_int = some tr_cmp_isNaN_int := rfl
theorem F_cmp_Less_int : mc.F f_cmp_Less_int = some tr_cmp_Less_int := rfl
theorem F_slices_insertionSortOrdered_int : mc.F f_slices_insertionSortOrdered_int = some tr_slices_insertionSortOrdered_int := rfl
theorem F_slices_siftDownOrdered_int : mc.F f_slices_siftDownOrdered_int = some tr_slices_siftDownOrdered_int := rfl
theorem F_slices_heapSortOrdered_int : mc.F f_slices_heapSortOrdered_int = some tr_slices_heapSortOrdered_int := rfl
theorem F_slices_nextPowerOfTwo : mc.F f_slices_nextPowerOfTwo = some tr_slices_nextPowerOfTwo := rfl
theorem F_slices_xorshift_Next : mc.F f_slices_xorshift_Next = some tr_slices_xorshift_Next := rfl
theorem F_slices_breakPatternsOrdered_int : mc.F f_slices_breakPatternsOrdered_int = some tr_slices_breakPatternsOrdered_int := rfl
theorem F_slices_order2Ordered_int : mc.F f_slices_order2Ordered_int = some tr_slices_order2Ordered_int := rfl
theorem F_slices_medianOrdered_int : mc.F f_slices_medianOrdered_int = some tr_slices_medianOrdered_int := rfl
theorem F_slices_medianAdjacentOrdered_int : mc.F f_slices_medianAdjacentOrdered_int = some tr_slices_medianAdjacentOrdered_int := rfl
theorem F_slices_choosePivotOrdered_int : mc.F f_slices_choosePivotOrdered_int = some tr_slices_choosePivotOrdered_int := rfl
theorem F_slices_reverseRangeOrdered_int : mc.F f_slices_reverseRangeOrdered_int = some tr_slices_reverseRangeOrdered_int := rfl
theorem F_slices_partialInsertionSortOrdered_int : mc.F f_slices_partialInsertionSortOrdered_int = some tr_slices_partialInsertionSortOrdered_int := rfl
theorem F_slices_partitionEqualOrdered_int : mc.F f_slices_partitionEqualOrdered_int = some tr_slices_partitionEqualOrdered_int := rfl
theorem F_slices_partitionOrdered_int : mc.F f_slices_partitionOrdered_int = some tr_slices_partitionOrdered_int := rfl
theorem F_slices_pdqsortOrdered_int : mc.F f_slices_pdqsortOrdered_int = some tr_slices_pdqsortOrdered_int := rfl
theorem F_impl_touchedBy : mc.F f_impl_touchedBy = some tr_impl_touchedBy := rfl
theorem F_impl_rulesApart : mc.F f_impl_rulesApart = some tr_impl_rulesApart := rfl
theorem F_impl_wakersOf : mc.F f_impl_wakersOf = some tr_impl_wakersOf := rfl
theorem F_impl_stubbornOf : mc.F f_impl_stubbornOf = some tr_impl_stubbornOf := rfl
theorem F_impl_held : mc.F f_impl_held = some tr_impl_held := rfl
theorem F_impl_bit : mc.F f_impl_bit = some tr_impl_bit := rfl
theorem F_impl_do : mc.F f_impl_do = some tr_impl_do := rfl
theorem F_impl_eval : mc.F f_impl_eval = some tr_impl_eval := rfl
theorem F_impl_use : mc.F f_impl_use = some tr_impl_use := rfl
theorem F_impl_usableIn : mc.F f_impl_usableIn = some tr_impl_usableIn := rfl
theorem F_impl_marks : mc.F f_impl_marks = some tr_impl_marks := rfl
theorem F_impl_stubborn_from : mc.F f_impl_stubborn_from = some tr_impl_stubborn_from := rfl
theorem F_impl_listOf : mc.F f_impl_listOf = some tr_impl_listOf := rfl
theorem F_spec_l2Var : mc.F f_spec_l2Var = some tr_spec_l2Var := rfl
theorem F_spec_l2Is : mc.F f_spec_l2Is = some tr_spec_l2Is := rfl
theorem F_spec_l2Rule : mc.F f_spec_l2Rule = some tr_spec_l2Rule := rfl
theorem F_spec_SystemValid : mc.F f_spec_SystemValid = some tr_spec_SystemValid := rfl
theorem F_spec_l2In : mc.F f_spec_l2In = some tr_spec_l2In := rfl
theorem F_spec_l1Held : mc.F f_spec_l1Held = some tr_spec_l1Held := rfl
theorem F_spec_l1Truth : mc.F f_spec_l1Truth = some tr_spec_l1Truth := rfl
theorem F_spec_l1Do : mc.F f_spec_l1Do = some tr_spec_l1Do := rfl
theorem F_spec_l1Values : mc.F f_spec_l1Values = some tr_spec_l1Values := rfl
theorem F_spec_l2Last : mc.F f_spec_l2Last = some tr_spec_l2Last := rfl
theorem F_spec_l2Use : mc.F f_spec_l2Use = some tr_spec_l2Use := rfl
theorem F_spec_l1Needed : mc.F f_spec_l1Needed = some tr_spec_l1Needed := rfl
theorem F_spec_UsedBy : mc.F f_spec_UsedBy = some tr_spec_UsedBy := rfl
theorem F_spec_l2Has : mc.F f_spec_l2Has = some tr_spec_l2Has := rfl
theorem F_spec_TouchedBy : mc.F f_spec_TouchedBy = some tr_spec_TouchedBy := rfl
theorem F_spec_l26Meet : mc.F f_spec_l26Meet = some tr_spec_l26Meet := rfl
theorem F_spec_l26Apart : mc.F f_spec_l26Apart = some tr_spec_l26Apart := rfl
theorem F_spec_l26Wakers : mc.F f_spec_l26Wakers = some tr_spec_l26Wakers := rfl
theorem F_spec_l4List : mc.F f_spec_l4List = some tr_spec_l4List := rfl
theorem F_spec_l26From : mc.F f_spec_l26From = some tr_spec_l26From := rfl
theorem F_impl_stubborn_in : mc.F f_impl_stubborn_in = some tr_impl_stubborn_in := rfl
theorem F_spec_l26Usable : mc.F f_spec_l26Usable = some tr_spec_l26Usable := rfl
theorem F_spec_l26Best : mc.F f_spec_l26Best = some tr_spec_l26Best := rfl
theorem F_laws_szVarS : mc.F f_laws_szVarS = some tr_laws_szVarS := rfl
theorem F_laws_szTermS : mc.F f_laws_szTermS = some tr_laws_szTermS := rfl
theorem F_laws_szIntS : mc.F f_laws_szIntS = some tr_laws_szIntS := rfl
theorem F_laws_szTermSS : mc.F f_laws_szTermSS = some tr_laws_szTermSS := rfl
theorem F_laws_szRule : mc.F f_laws_szRule = some tr_laws_szRule := rfl
theorem F_laws_szRuleS : mc.F f_laws_szRuleS = some tr_laws_szRuleS := rfl
theorem F_laws_szSystem : mc.F f_laws_szSystem = some tr_laws_szSystem := rfl
theorem F_laws_toVar : mc.F f_laws_toVar = some tr_laws_toVar := rfl
theorem F_laws_toVarS : mc.F f_laws_toVarS = some tr_laws_toVarS := rfl
theorem F_laws_toTerm : mc.F f_laws_toTerm = some tr_laws_toTerm := rfl
theorem F_laws_toTermS : mc.F f_laws_toTermS = some tr_laws_toTermS := rfl
theorem F_laws_toIntS : mc.F f_laws_toIntS = some tr_laws_toIntS := rfl
theorem F_laws_toTermSS : mc.F f_laws_toTermSS = some tr_laws_toTermSS := rfl
theorem F_laws_toRule : mc.F f_laws_toRule = some tr_laws_toRule := rfl
theorem F_laws_toRuleS : mc.F f_laws_toRuleS = some tr_laws_toRuleS := rfl
theorem F_laws_toSystem : mc.F f_laws_toSystem = some tr_laws_toSystem := rfl
theorem F_spec_SizeOf : mc.F f_spec_SizeOf = some tr_spec_SizeOf := rfl
theorem F_spec_FirstState : mc.F f_spec_FirstState = some tr_spec_FirstState := rfl
theorem F_spec_l3Copy : mc.F f_spec_l3Copy = some tr_spec_l3Copy := rfl
theorem F_spec_l4State : mc.F f_spec_l4State = some tr_spec_l4State := rfl
theorem F_spec_l4Number : mc.F f_spec_l4Number = some tr_spec_l4Number := rfl
theorem F_spec_l17Ordered : mc.F f_spec_l17Ordered = some tr_spec_l17Ordered := rfl
theorem F_spec_l26Steps : mc.F f_spec_l26Steps = some tr_spec_l26Steps := rfl
theorem F_spec_l4Marks : mc.F f_spec_l4Marks = some tr_spec_l4Marks := rfl
theorem F_spec_l5First : mc.F f_spec_l5First = some tr_spec_l5First := rfl
theorem F_spec_l5Steps : mc.F f_spec_l5Steps = some tr_spec_l5Steps := rfl
theorem F_spec_l5Told : mc.F f_spec_l5Told = some tr_spec_l5Told := rfl
theorem F_spec_ReducedReach : mc.F f_spec_ReducedReach = some tr_spec_ReducedReach := rfl
theorem F_impl_stateAt : mc.F f_impl_stateAt = some tr_impl_stateAt := rfl
theorem F_impl_number : mc.F f_impl_number = some tr_impl_number := rfl
theorem F_impl_reducedNexts : mc.F f_impl_reducedNexts = some tr_impl_reducedNexts := rfl
theorem F_impl_first : mc.F f_impl_first = some tr_impl_first := rfl
theorem F_impl_reach : mc.F f_impl_reach = some tr_impl_reach := rfl
theorem F_impl_ReducedReach : mc.F f_impl_ReducedReach = some tr_impl_ReducedReach := rfl
theorem F_laws_eqIntS : mc.F f_laws_eqIntS = some tr_laws_eqIntS := rfl
theorem F_laws_eqVar : mc.F f_laws_eqVar = some tr_laws_eqVar := rfl
theorem F_laws_eqVarS : mc.F f_laws_eqVarS = some tr_laws_eqVarS := rfl
theorem F_laws_eqTerm : mc.F f_laws_eqTerm = some tr_laws_eqTerm := rfl
theorem F_laws_eqTermS : mc.F f_laws_eqTermS = some tr_laws_eqTermS := rfl
theorem F_laws_eqTermSS : mc.F f_laws_eqTermSS = some tr_laws_eqTermSS := rfl
theorem F_laws_eqRule : mc.F f_laws_eqRule = some tr_laws_eqRule := rfl
theorem F_laws_eqRuleS : mc.F f_laws_eqRuleS = some tr_laws_eqRuleS := rfl
theorem F_laws_eqSystem : mc.F f_laws_eqSystem = some tr_laws_eqSystem := rfl
theorem F_laws_markVarS : mc.F f_laws_markVarS = some tr_laws_markVarS := rfl
theorem F_laws_markTermS : mc.F f_laws_markTermS = some tr_laws_markTermS := rfl
theorem F_laws_markIntS : mc.F f_laws_markIntS = some tr_laws_markIntS := rfl
theorem F_laws_markTermSS : mc.F f_laws_markTermSS = some tr_laws_markTermSS := rfl
theorem F_laws_markRuleS : mc.F f_laws_markRuleS = some tr_laws_markRuleS := rfl
theorem F_laws_markSystem : mc.F f_laws_markSystem = some tr_laws_markSystem := rfl
theorem F_laws_heldIntS : mc.F f_laws_heldIntS = some tr_laws_heldIntS := rfl
theorem F_laws_FnExactReducedReach : mc.F f_laws_FnExactReducedReach = some tr_laws_FnExactReducedReach := rfl
end Go.Proofs.YthapopegchnhlabGreat
