/- What the functions of the law come to, as trees; printed by a program; no condition. -/
import Derived.Test.YtlfinllnfggiiaaGreatSmLib4
namespace Go.Proofs.YtlfinllnfggiiaaGreat
open Go Go.Sm Go.Sm.Q
abbrev f_spec_l40Open : Nat := 67
abbrev f_spec_l40Rd_pick : Nat := 69
abbrev f_spec_l40Rd_num : Nat := 102
abbrev f_spec_l2VarOf : Nat := 151
abbrev f_spec_l2Const : Nat := 150
abbrev f_spec_l2Cond : Nat := 103
abbrev f_spec_l1In : Nat := 35
abbrev f_spec_l1One : Nat := 181
abbrev f_spec_l1Kind : Nat := 192
abbrev f_spec_KindsOf : Nat := 156
abbrev f_spec_TermsValid : Nat := 180
abbrev f_spec_l1Moved : Nat := 182
abbrev f_spec_Joined : Nat := 136
abbrev f_spec_l2When : Nat := 166
abbrev f_spec_l1Number : Nat := 190
abbrev f_spec_l1Pick : Nat := 191
abbrev f_spec_l1Terms : Nat := 152
abbrev f_spec_l2Value : Nat := 137
abbrev f_spec_l2Rules : Nat := 189
abbrev f_spec_l2System : Nat := 149
abbrev f_spec_l2Any : Nat := 100
abbrev f_spec_Shifted : Nat := 138
abbrev f_spec_l26System : Nat := 85
abbrev f_spec_l2Some : Nat := 86
abbrev f_spec_l26Two : Nat := 30
abbrev f_spec_DrawRulesApart : Nat := 6
abbrev f_impl_in : Nat := 32
abbrev f_impl_varOk : Nat := 89
abbrev f_impl_size : Nat := 37
abbrev f_impl_parts : Nat := 193
abbrev f_impl_kindsOf : Nat := 155
abbrev f_impl_kindOf : Nat := 108
abbrev f_impl_ruleOk : Nat := 92
abbrev f_impl_SystemValid : Nat := 31
abbrev f_slices_Index_Sint_int : Nat := 183
abbrev f_slices_Contains_Sint_int : Nat := 142
abbrev f_impl_meets : Nat := 93
abbrev f_impl_clone_int : Nat := 63
abbrev f_impl_usedBy : Nat := 143
abbrev f_math_bits_Len32 : Nat := 225
abbrev f_math_bits_Len64 : Nat := 226
abbrev f_math_bits_Len : Nat := 185
abbrev f_cmp_isNaN_int : Nat := 232
abbrev f_cmp_Less_int : Nat := 222
abbrev f_slices_insertionSortOrdered_int : Nat := 216
abbrev f_slices_siftDownOrdered_int : Nat := 234
abbrev f_slices_heapSortOrdered_int : Nat := 217
abbrev f_slices_nextPowerOfTwo : Nat := 235
abbrev f_slices_xorshift_Next : Nat := 236
abbrev f_slices_breakPatternsOrdered_int : Nat := 218
abbrev f_slices_order2Ordered_int : Nat := 241
abbrev f_slices_medianOrdered_int : Nat := 238
abbrev f_slices_medianAdjacentOrdered_int : Nat := 237
abbrev f_slices_choosePivotOrdered_int : Nat := 219
abbrev f_slices_reverseRangeOrdered_int : Nat := 220
abbrev f_slices_partialInsertionSortOrdered_int : Nat := 221
abbrev f_slices_partitionEqualOrdered_int : Nat := 223
abbrev f_slices_partitionOrdered_int : Nat := 224
abbrev f_slices_pdqsortOrdered_int : Nat := 184
abbrev f_impl_touchedBy : Nat := 94
abbrev f_impl_rulesApart : Nat := 33
abbrev f_impl_RulesApart : Nat := 7
abbrev f_spec_l2Var : Nat := 95
abbrev f_spec_l2Is : Nat := 111
abbrev f_spec_l2Rule : Nat := 96
abbrev f_spec_SystemValid : Nat := 34
abbrev f_spec_l1Needed : Nat := 186
abbrev f_spec_UsedBy : Nat := 147
abbrev f_spec_l2Has : Nat := 146
abbrev f_spec_TouchedBy : Nat := 97
abbrev f_spec_l26Meet : Nat := 98
abbrev f_spec_l26Apart : Nat := 36
abbrev f_spec_RulesApart : Nat := 8
abbrev f_impl_SizeOf : Nat := 9
abbrev f_spec_SizeOf : Nat := 10
abbrev f_impl_stateAt : Nat := 38
abbrev f_impl_StateAt : Nat := 11
abbrev f_impl_inRange : Nat := 55
abbrev f_impl_InRange : Nat := 39
abbrev f_impl_held : Nat := 187
abbrev f_impl_bit : Nat := 188
abbrev f_impl_do : Nat := 148
abbrev f_impl_eval : Nat := 99
abbrev f_impl_use : Nat := 40
abbrev f_impl_Use : Nat := 12
abbrev f_slices_Equal_Sint_int : Nat := 41
abbrev f_impl_RulesCommute : Nat := 13
abbrev f_impl_wakersOf : Nat := 42
abbrev f_impl_WakersOf : Nat := 15
abbrev f_laws_wcHas : Nat := 14
abbrev f_laws_FnRulesApart : Nat := 3
abbrev f_slices_Sort_Sint_int : Nat := 144
abbrev f_slices_Compact_Sint_int : Nat := 145
def tr_spec_l40Open : Tr := .join
 (.ite (gt (ln (v (L U) 0)) (c 2000))
  (.guard (le (c 2000) (ln (re false (v (L U) 0))))
   (.jump 0 [a (take (re false (v (L U) 0)) (c 2000))]))
  (.jump 0 [a (v (L U) 0)]))
 (.ret [a (pr (v (L U) 0) (c 0))])
def tr_spec_l40Rd_pick : Tr := .ite (lt (v I 1) (c 1))
 (.ret [a (c 0), a (pr (f (v (P (L U) I) 0)) (add (s (v (P (L U) I) 0)) (c 1)))])
 (.ite (eq (ln (f (v (P (L U) I) 0))) (c 0))
  (.ret [a (c 0), a (pr (f (v (P (L U) I) 0)) (add (s (v (P (L U) I) 0)) (c 1)))])
  (.ite (lt (sub (add (s (v (P (L U) I) 0)) (c 1)) (c 1)) (ln (f (v (P (L U) I) 0))))
   (.guard (le (c 0) (sub (add (s (v (P (L U) I) 0)) (c 1)) (c 1)))
    (.guard (lt (sub (add (s (v (P (L U) I) 0)) (c 1)) (c 1)) (ln (f (v (P (L U) I) 0))))
     (.guard (ne (v I 1) (c 0))
      (.ret [a (rem (.o1 (.conv .u8 .i64) (ix (f (v (P (L U) I) 0)) (sub (add (s (v (P (L U) I) 0)) (c 1)) (c 1)))) (v I 1)), a (pr (f (v (P (L U) I) 0)) (add (s (v (P (L U) I) 0)) (c 1)))]))))
   (.guard (ne (ln (f (v (P (L U) I) 0))) (c 0))
    (.guard (le (c 0) (rem (sub (add (s (v (P (L U) I) 0)) (c 1)) (c 1)) (ln (f (v (P (L U) I) 0)))))
     (.guard (lt (rem (sub (add (s (v (P (L U) I) 0)) (c 1)) (c 1)) (ln (f (v (P (L U) I) 0)))) (ln (f (v (P (L U) I) 0))))
      (.guard (ne (ln (f (v (P (L U) I) 0))) (c 0))
       (.guard (le (c 0) (rem (add (mul (sub (add (s (v (P (L U) I) 0)) (c 1)) (c 1)) (c 7)) (c 3)) (ln (f (v (P (L U) I) 0)))))
        (.guard (lt (rem (add (mul (sub (add (s (v (P (L U) I) 0)) (c 1)) (c 1)) (c 7)) (c 3)) (ln (f (v (P (L U) I) 0)))) (ln (f (v (P (L U) I) 0))))
         (.guard (ne (ln (f (v (P (L U) I) 0))) (c 0))
          (.guard (ne (v I 1) (c 0))
           (.ret [a (rem (ar .xor (add (add (add (mul (.o1 (.conv .u8 .i64) (ix (f (v (P (L U) I) 0)) (rem (sub (add (s (v (P (L U) I) 0)) (c 1)) (c 1)) (ln (f (v (P (L U) I) 0)))))) (c 131)) (mul (.o1 (.conv .u8 .i64) (ix (f (v (P (L U) I) 0)) (rem (add (mul (sub (add (s (v (P (L U) I) 0)) (c 1)) (c 1)) (c 7)) (c 3)) (ln (f (v (P (L U) I) 0)))))) (c 1117))) (mul (sub (add (s (v (P (L U) I) 0)) (c 1)) (c 1)) (c 29))) (mul (quo (sub (add (s (v (P (L U) I) 0)) (c 1)) (c 1)) (ln (f (v (P (L U) I) 0)))) (c 53))) (quo (add (add (add (mul (.o1 (.conv .u8 .i64) (ix (f (v (P (L U) I) 0)) (rem (sub (add (s (v (P (L U) I) 0)) (c 1)) (c 1)) (ln (f (v (P (L U) I) 0)))))) (c 131)) (mul (.o1 (.conv .u8 .i64) (ix (f (v (P (L U) I) 0)) (rem (add (mul (sub (add (s (v (P (L U) I) 0)) (c 1)) (c 1)) (c 7)) (c 3)) (ln (f (v (P (L U) I) 0)))))) (c 1117))) (mul (sub (add (s (v (P (L U) I) 0)) (c 1)) (c 1)) (c 29))) (mul (quo (sub (add (s (v (P (L U) I) 0)) (c 1)) (c 1)) (ln (f (v (P (L U) I) 0)))) (c 53))) (c 64))) (v I 1)), a (pr (f (v (P (L U) I) 0)) (add (s (v (P (L U) I) 0)) (c 1)))])))))))))))
def tr_spec_l40Rd_num : Tr := .call f_spec_l40Rd_pick [a (pr (f (v (P (L U) I) 0)) (s (v (P (L U) I) 0))), a (ln (v (L I) 1))] 100320
 (.guard (le (c 0) (v I 100320))
  (.guard (lt (v I 100320) (ln (v (L I) 1)))
   (.ret [a (ix (v (L I) 1) (v I 100320)), a (pr (f (v (P (L U) I) 0)) (s (v (P (L U) I) 100321)))])))
def tr_spec_l2VarOf : Tr := .ret [a (c 1), a (v I 0), a (c 0), a (c 0)]
def tr_spec_l2Const : Tr := .ret [a (c 0), a (v I 0), a (c 0), a (c 0)]
def tr_spec_l2Cond : Tr := .call f_spec_l40Rd_pick [a (pr (f (v (P (L U) I) 0)) (s (v (P (L U) I) 0))), a (add (sub (v I 2) (v I 1)) (c 1))] 100704
 (.join
  (.jump 0 [a (v I 4), a (add (v I 1) (v I 100704)), a (f (v (P (L U) I) 0)), a (s (v (P (L U) I) 100705))])
  (.call f_spec_l40Rd_num [a (pr (v (L U) 2) (v I 3)), a (app (one (c 6)) (app (one (c 5)) (app (one (c 5)) (one (c 6)))))] 133
   (.call f_spec_l2VarOf [a (v I 0)] 325
    (.call f_spec_l2Const [a (v I 1)] 453
     (.join
      (.call f_spec_l40Rd_pick [a (pr (v (L U) 2) (s (v (P (L U) I) 134))), a (c 3)] 837
       (.ite (eq (v I 837) (c 0))
        (.guard (le (ln (app (one (pr (v I 325) (pr (v I 326) (pr (v I 327) (v I 328))))) (app (one (pr (v I 453) (pr (v I 454) (pr (v I 455) (v I 456))))) (one (pr (v I 133) (pr (c 0) (pr (c 0) (c 1)))))))) (c 549755813888))
         (.guard (le (ln (one (pr (c 7) (pr (c 0) (pr (c 2) (c 2)))))) (c 549755813888))
          (.jump 0 [a (v (L U) 2), a (s (v (P (L U) I) 838)), a (app (app (one (pr (v I 325) (pr (v I 326) (pr (v I 327) (v I 328))))) (app (one (pr (v I 453) (pr (v I 454) (pr (v I 455) (v I 456))))) (one (pr (v I 133) (pr (c 0) (pr (c 0) (c 1))))))) (one (pr (c 7) (pr (c 0) (pr (c 2) (c 2))))))])))
        (.jump 0 [a (v (L U) 2), a (s (v (P (L U) I) 838)), a (app (one (pr (v I 325) (pr (v I 326) (pr (v I 327) (v I 328))))) (app (one (pr (v I 453) (pr (v I 454) (pr (v I 455) (v I 456))))) (one (pr (v I 133) (pr (c 0) (pr (c 0) (c 1)))))))])))
      (.ret [a (v (L T4) 2), a (pr (v (L U) 0) (v I 1))]))))))
def tr_spec_l1In : Tr := .ite (ge (v I 0) (v I 1))
 (.ret [a (le (v I 0) (v I 2))])
 (.ret [a (k false)])
def tr_spec_l1One : Tr := .ret [a (eq (v I 0) (c 7))]
def tr_spec_l1Kind : Tr := .join
 (.ite (eq (v I 0) (c 0))
  (.call f_spec_l1In [a (v I 1), a (c (-9999)), a (c 9999)] 100512
   (.ite (v B 100512)
    (.ite (eq (v I 2) (c 0))
     (.ite (eq (v I 3) (c 0))
      (.ret [a (c 1)])
      (.jump 0 [a (v (L I) 4), a (v I 5), a (v I 0), a (v I 1), a (v I 2), a (v I 3)]))
     (.jump 0 [a (v (L I) 4), a (v I 5), a (v I 0), a (v I 1), a (v I 2), a (v I 3)]))
    (.jump 0 [a (v (L I) 4), a (v I 5), a (v I 0), a (v I 1), a (v I 2), a (v I 3)])))
  (.jump 0 [a (v (L I) 4), a (v I 5), a (v I 0), a (v I 1), a (v I 2), a (v I 3)]))
 (.join
  (.ite (eq (v I 2) (c 1))
   (.call f_spec_l1In [a (v I 3), a (c 0), a (sub (v I 1) (c 1))] 519
    (.ite (v B 519)
     (.ite (eq (v I 4) (c 0))
      (.ite (eq (v I 5) (c 0))
       (.ret [a (c 1)])
       (.jump 0 [a (v (L I) 0), a (v I 2), a (v I 3), a (v I 4), a (v I 5)]))
      (.jump 0 [a (v (L I) 0), a (v I 2), a (v I 3), a (v I 4), a (v I 5)]))
     (.jump 0 [a (v (L I) 0), a (v I 2), a (v I 3), a (v I 4), a (v I 5)])))
   (.jump 0 [a (v (L I) 0), a (v I 2), a (v I 3), a (v I 4), a (v I 5)]))
  (.call f_spec_l1In [a (v I 1), a (c 2), a (c 9)] 134
   (.ite (nt (v B 134))
    (.ret [a (c 0)])
    (.ite (ne (v I 2) (c 0))
     (.ret [a (c 0)])
     (.call f_spec_l1In [a (v I 3), a (c 0), a (sub (ln (v (L I) 0)) (c 1))] 966
      (.ite (nt (v B 966))
       (.ret [a (c 0)])
       (.call f_spec_l1In [a (v I 4), a (c 0), a (sub (ln (v (L I) 0)) (c 1))] 1542
        (.ite (nt (v B 1542))
         (.ret [a (c 0)])
         (.join
          (.ite (ge (v I 1) (c 7))
           (.jump 0 [a (v (L I) 0), a (c 2), a (v I 1), a (v I 2), a (v I 3), a (v I 4)])
           (.jump 0 [a (v (L I) 0), a (c 1), a (v I 1), a (v I 2), a (v I 3), a (v I 4)]))
          (.join
           (.guard (le (c 0) (v I 4))
            (.guard (lt (v I 4) (ln (v (L I) 0)))
             (.ite (ne (ix (v (L I) 0) (v I 4)) (v I 1))
              (.ret [a (c 0)])
              (.guard (le (c 0) (v I 5))
               (.guard (lt (v I 5) (ln (v (L I) 0)))
                (.ite (ne (ix (v (L I) 0) (v I 5)) (v I 1))
                 (.ret [a (c 0)])
                 (.call f_spec_l1One [a (v I 2)] 1223
                  (.ite (v B 1223)
                   (.ite (ne (v I 5) (v I 4))
                    (.ret [a (c 0)])
                    (.jump 0 [a (v I 2), a (v I 3), a (v I 4), a (v I 5)]))
                   (.jump 0 [a (v I 2), a (v I 3), a (v I 4), a (v I 5)])))))))))
           (.ite (ge (v I 0) (c 5))
            (.ret [a (c 2)])
            (.ret [a (c 1)]))))))))))))
def tr_spec_KindsOf : Tr := .call f_spec_l1In [a (v I 1), a (c 0), a (c 5)] 100128
 (.ite (nt (v B 100128))
  (.ret [a (nl I)])
  (.call f_spec_l1In [a (ln (v (L T4) 0)), a (c 1), a (c 40)] 100448
   (.ite (nt (v B 100448))
    (.ret [a (nl I)])
    (.loop [a (v (L T4) 0), a (v I 1), a (c 0), a (nl I)]
     (.ite (lt (v I 2) (ln (v (L T4) 0)))
      (.guard (le (c 0) (v I 2))
       (.guard (lt (v I 2) (ln (v (L T4) 0)))
        (.call f_spec_l1Kind [a (f (ix (v (L T4) 0) (v I 2))), a (f (s (ix (v (L T4) 0) (v I 2)))), a (f (s (s (ix (v (L T4) 0) (v I 2))))), a (s (s (s (ix (v (L T4) 0) (v I 2))))), a (v (L I) 3), a (v I 1)] 645
         (.ite (eq (v I 645) (c 0))
          (.ret [a (nl I)])
          (.guard (le (ln (v (L I) 3)) (c 549755813888))
           (.guard (le (ln (one (v I 645))) (c 549755813888))
            (.jump 0 [a (v (L T4) 0), a (v I 1), a (add (v I 2) (c 1)), a (app (v (L I) 3) (one (v I 645)))])))))))
      (.ret [a (v (L I) 3)]))))))
def tr_spec_TermsValid : Tr := .call f_spec_KindsOf [a (v (L T4) 0), a (v I 1)] 100192
 (.ret [a (gt (ln (v (L I) 100192)) (c 0))])
def tr_spec_l1Moved : Tr := .ite (ge (v I 0) (c 2))
 (.ret [a (v I 0), a (c 0), a (add (v I 2) (v I 4)), a (add (v I 3) (v I 4))])
 (.ret [a (v I 0), a (v I 1), a (v I 2), a (v I 3)])
def tr_spec_Joined : Tr := .call f_spec_TermsValid [a (v (L T4) 1), a (v I 3)] 100192
 (.ite (nt (v B 100192))
  (.ret [a (nl T4)])
  (.call f_spec_TermsValid [a (v (L T4) 2), a (v I 3)] 100512
   (.ite (nt (v B 100512))
    (.ret [a (nl T4)])
    (.loop [a (v I 0), a (v (L T4) 1), a (v (L T4) 2), a (v I 3), a (c 0), a (nl T4)]
     (.ite (lt (v I 4) (ln (v (L T4) 1)))
      (.guard (le (c 0) (v I 4))
       (.guard (lt (v I 4) (ln (v (L T4) 1)))
        (.guard (le (ln (v (L T4) 5)) (c 549755813888))
         (.guard (le (ln (one (pr (f (ix (v (L T4) 1) (v I 4))) (pr (f (s (ix (v (L T4) 1) (v I 4)))) (pr (f (s (s (ix (v (L T4) 1) (v I 4))))) (s (s (s (ix (v (L T4) 1) (v I 4)))))))))) (c 549755813888))
          (.jump 0 [a (v I 0), a (v (L T4) 1), a (v (L T4) 2), a (v I 3), a (add (v I 4) (c 1)), a (app (v (L T4) 5) (one (pr (f (ix (v (L T4) 1) (v I 4))) (pr (f (s (ix (v (L T4) 1) (v I 4)))) (pr (f (s (s (ix (v (L T4) 1) (v I 4))))) (s (s (s (ix (v (L T4) 1) (v I 4))))))))))])))))
      (.join
       (.loop [a (v I 0), a (v (L T4) 1), a (v (L T4) 2), a (v I 3), a (c 0), a (v (L T4) 5)]
        (.ite (lt (v I 4) (ln (v (L T4) 2)))
         (.call f_spec_l1One [a (v I 0)] 391
          (.ite (nt (v B 391))
           (.guard (le (c 0) (v I 4))
            (.guard (lt (v I 4) (ln (v (L T4) 2)))
             (.call f_spec_l1Moved [a (f (ix (v (L T4) 2) (v I 4))), a (f (s (ix (v (L T4) 2) (v I 4)))), a (f (s (s (ix (v (L T4) 2) (v I 4))))), a (s (s (s (ix (v (L T4) 2) (v I 4))))), a (ln (v (L T4) 1))] 1031
              (.guard (le (ln (v (L T4) 5)) (c 549755813888))
               (.guard (le (ln (one (pr (v I 1031) (pr (v I 1032) (pr (v I 1033) (v I 1034)))))) (c 549755813888))
                (.jump 0 [a (v I 0), a (v (L T4) 1), a (v (L T4) 2), a (v I 3), a (add (v I 4) (c 1)), a (app (v (L T4) 5) (one (pr (v I 1031) (pr (v I 1032) (pr (v I 1033) (v I 1034))))))]))))))
           (.jump 1 [a (v I 0), a (v (L T4) 1), a (v I 3), a (v (L T4) 5)])))
         (.jump 1 [a (v I 0), a (v (L T4) 1), a (v I 3), a (v (L T4) 5)])))
       (.guard (le (ln (v (L T4) 3)) (c 549755813888))
        (.guard (le (ln (one (pr (v I 0) (pr (c 0) (pr (sub (ln (v (L T4) 1)) (c 1)) (sub (ln (v (L T4) 3)) (c 1))))))) (c 549755813888))
         (.ite (lt (v I 0) (c 2))
          (.ret [a (nl T4)])
          (.call f_spec_TermsValid [a (app (v (L T4) 3) (one (pr (v I 0) (pr (c 0) (pr (sub (ln (v (L T4) 1)) (c 1)) (sub (ln (v (L T4) 3)) (c 1))))))), a (v I 2)] 1093
           (.ite (nt (v B 1093))
            (.ret [a (nl T4)])
            (.ret [a (app (v (L T4) 3) (one (pr (v I 0) (pr (c 0) (pr (sub (ln (v (L T4) 1)) (c 1)) (sub (ln (v (L T4) 3)) (c 1)))))))]))))))))))))
def tr_spec_l2When : Tr := .call f_spec_l40Rd_pick [a (pr (f (v (P (L U) I) 0)) (s (v (P (L U) I) 0))), a (ln (v (L V3) 1))] 100256
 (.guard (le (c 0) (v I 100256))
  (.guard (lt (v I 100256) (ln (v (L V3) 1)))
   (.call f_spec_l2Cond [a (pr (f (v (P (L U) I) 0)) (s (v (P (L U) I) 100257))), a (f (ix (v (L V3) 1) (v I 100256))), a (f (s (ix (v (L V3) 1) (v I 100256)))), a (s (s (ix (v (L V3) 1) (v I 100256)))), a (v I 100256)] 100768
    (.join
     (.call f_spec_l40Rd_pick [a (pr (f (v (P (L U) I) 0)) (s (v (P (L U) I) 100769))), a (c 2)] 100960
      (.ite (eq (v I 100960) (c 0))
       (.call f_spec_l40Rd_pick [a (pr (f (v (P (L U) I) 0)) (s (v (P (L U) I) 100961))), a (ln (v (L V3) 1))] 101280
        (.guard (le (c 0) (v I 101280))
         (.guard (lt (v I 101280) (ln (v (L V3) 1)))
          (.call f_spec_l40Rd_num [a (pr (f (v (P (L U) I) 0)) (s (v (P (L U) I) 101281))), a (app (one (c 8)) (app (one (c 9)) (one (c 8))))] 102048
           (.call f_spec_l2Cond [a (pr (f (v (P (L U) I) 0)) (s (v (P (L U) I) 102049))), a (f (ix (v (L V3) 1) (v I 101280))), a (f (s (ix (v (L V3) 1) (v I 101280)))), a (s (s (ix (v (L V3) 1) (v I 101280)))), a (v I 101280)] 102176
            (.call f_spec_Joined [a (v I 102048), a (v (L T4) 100768), a (v (L T4) 102176), a (ln (v (L V3) 1))] 102240
             (.join
              (.jump 0 [a (f (v (P (L U) I) 0)), a (s (v (P (L U) I) 102177)), a (v (L T4) 102240)])
              (.jump 0 [a (v (L U) 0), a (v I 1), a (v (L T4) 2)]))))))))
       (.jump 0 [a (f (v (P (L U) I) 0)), a (s (v (P (L U) I) 100961)), a (v (L T4) 100768)])))
     (.ret [a (v (L T4) 2), a (pr (v (L U) 0) (v I 1))])))))
def tr_spec_l1Number : Tr := .call f_spec_l40Rd_pick [a (pr (f (v (P (L U) I) 0)) (s (v (P (L U) I) 0))), a (c 4)] 100192
 (.call f_spec_l40Rd_pick [a (pr (f (v (P (L U) I) 0)) (s (v (P (L U) I) 100193))), a (c 4)] 100320
  (.call f_spec_l40Rd_pick [a (pr (f (v (P (L U) I) 0)) (s (v (P (L U) I) 100321))), a (c 7)] 100448
   (.call f_spec_l40Rd_pick [a (pr (f (v (P (L U) I) 0)) (s (v (P (L U) I) 100449))), a (c 200)] 100640
    (.call f_spec_l40Rd_pick [a (pr (f (v (P (L U) I) 0)) (s (v (P (L U) I) 100641))), a (c 4)] 100896
     (.guard (le (c 0) (v I 100896))
      (.guard (lt (v I 100896) (ln (app (one (c 9999)) (app (one (c (-9999))) (app (one (c 5000)) (one (c 100)))))))
       (.call f_spec_l40Rd_num [a (pr (f (v (P (L U) I) 0)) (s (v (P (L U) I) 100897))), a (app (one (v I 100192)) (app (one (v I 100320)) (app (one (sub (v I 100448) (c 3))) (app (one (c 1)) (app (one (c 0)) (app (one (sub (v I 100640) (c 100))) (one (ix (app (one (c 9999)) (app (one (c (-9999))) (app (one (c 5000)) (one (c 100))))) (v I 100896)))))))))] 101152
        (.ret [a (v I 101152), a (pr (f (v (P (L U) I) 0)) (s (v (P (L U) I) 101153)))]))))))))
def tr_spec_l1Pick : Tr := .call f_spec_l40Rd_pick [a (pr (f (v (P (L U) I) 0)) (s (v (P (L U) I) 0))), a (ln (v (L I) 1))] 100256
 (.loop [a (v (L I) 1), a (v I 2), a (v I 100256), a (c 0), a (f (v (P (L U) I) 0)), a (s (v (P (L U) I) 100257))]
  (.ite (lt (v I 3) (ln (v (L I) 0)))
   (.guard (ne (ln (v (L I) 0)) (c 0))
    (.guard (le (c 0) (rem (add (v I 2) (v I 3)) (ln (v (L I) 0))))
     (.guard (lt (rem (add (v I 2) (v I 3)) (ln (v (L I) 0))) (ln (v (L I) 0)))
      (.ite (eq (ix (v (L I) 0) (rem (add (v I 2) (v I 3)) (ln (v (L I) 0)))) (v I 1))
       (.ret [a (rem (add (v I 2) (v I 3)) (ln (v (L I) 0))), a (pr (v (L U) 4) (v I 5))])
       (.jump 0 [a (v (L I) 0), a (v I 1), a (v I 2), a (add (v I 3) (c 1)), a (v (L U) 4), a (v I 5)])))))
   (.ret [a (c (-1)), a (pr (v (L U) 4) (v I 5))])))
def tr_spec_l1Terms : Tr := .call f_spec_l40Rd_pick [a (pr (f (v (P (L U) I) 0)) (s (v (P (L U) I) 0))), a (v I 3)] 100448
 (.loop [a (v I 1), a (v I 2), a (add (c 2) (v I 100448)), a (f (v (P (L U) I) 0)), a (s (v (P (L U) I) 100449)), a (nl T4), a (nl I)]
  (.ite (gt (v I 2) (c 0))
   (.join
    (.call f_spec_l40Rd_num [a (pr (v (L U) 3) (v I 4)), a (app (one (c 0)) (app (one (c 1)) (app (one (c 1)) (app (one (c 2)) (app (one (c 3)) (app (one (c 4)) (app (one (c 5)) (app (one (c 6)) (app (one (c 5)) (app (one (c 6)) (app (one (c 7)) (app (one (c 8)) (one (c 9))))))))))))))] 266
     (.join
      (.ite (eq (ln (v (L T4) 5)) (c 0))
       (.call f_spec_l1Number [a (pr (v (L U) 3) (s (v (P (L U) I) 267)))] 1162
        (.ite (gt (v I 0) (c 0))
         (.ite (ne (v I 266) (c 0))
          (.call f_spec_l40Rd_pick [a (pr (v (L U) 3) (s (v (P (L U) I) 1163))), a (v I 0)] 1866
           (.jump 0 [a (v I 0), a (v I 1), a (v I 2), a (v (L U) 3), a (s (v (P (L U) I) 1867)), a (v (L T4) 5), a (v (L I) 6), a (c 1), a (v I 1866), a (c 0), a (c 0)]))
          (.jump 0 [a (v I 0), a (v I 1), a (v I 2), a (v (L U) 3), a (s (v (P (L U) I) 1163)), a (v (L T4) 5), a (v (L I) 6), a (c 0), a (v I 1162), a (c 0), a (c 0)]))
         (.jump 0 [a (v I 0), a (v I 1), a (v I 2), a (v (L U) 3), a (s (v (P (L U) I) 1163)), a (v (L T4) 5), a (v (L I) 6), a (c 0), a (v I 1162), a (c 0), a (c 0)])))
       (.ite (lt (v I 266) (c 2))
        (.call f_spec_l1Number [a (pr (v (L U) 3) (s (v (P (L U) I) 267)))] 1162
         (.ite (gt (v I 0) (c 0))
          (.ite (ne (v I 266) (c 0))
           (.call f_spec_l40Rd_pick [a (pr (v (L U) 3) (s (v (P (L U) I) 1163))), a (v I 0)] 1866
            (.jump 0 [a (v I 0), a (v I 1), a (v I 2), a (v (L U) 3), a (s (v (P (L U) I) 1867)), a (v (L T4) 5), a (v (L I) 6), a (c 1), a (v I 1866), a (c 0), a (c 0)]))
           (.jump 0 [a (v I 0), a (v I 1), a (v I 2), a (v (L U) 3), a (s (v (P (L U) I) 1163)), a (v (L T4) 5), a (v (L I) 6), a (c 0), a (v I 1162), a (c 0), a (c 0)]))
          (.jump 0 [a (v I 0), a (v I 1), a (v I 2), a (v (L U) 3), a (s (v (P (L U) I) 1163)), a (v (L T4) 5), a (v (L I) 6), a (c 0), a (v I 1162), a (c 0), a (c 0)])))
        (.join
         (.ite (ge (v I 266) (c 7))
          (.jump 0 [a (v I 0), a (v I 1), a (v I 2), a (v I 266), a (c 2), a (v (L U) 3), a (s (v (P (L U) I) 267)), a (v (L T4) 5), a (v (L I) 6), a (v I 266), a (c 0), a (c 0), a (c 0)])
          (.jump 0 [a (v I 0), a (v I 1), a (v I 2), a (v I 266), a (c 1), a (v (L U) 3), a (s (v (P (L U) I) 267)), a (v (L T4) 5), a (v (L I) 6), a (v I 266), a (c 0), a (c 0), a (c 0)]))
         (.call f_spec_l1Pick [a (pr (v (L U) 5) (v I 6)), a (v (L I) 8), a (v I 4)] 209
          (.call f_spec_l1Pick [a (pr (v (L U) 5) (s (v (P (L U) I) 210))), a (v (L I) 8), a (v I 4)] 593
           (.call f_spec_l1One [a (v I 3)] 849
            (.ite (v B 849)
             (.jump 0 [a (v I 0), a (v I 1), a (v I 2), a (v (L U) 5), a (s (v (P (L U) I) 594)), a (v (L T4) 7), a (v (L I) 8), a (v I 9), a (v I 10), a (v I 209), a (v I 209)])
             (.jump 0 [a (v I 0), a (v I 1), a (v I 2), a (v (L U) 5), a (s (v (P (L U) I) 594)), a (v (L T4) 7), a (v (L I) 8), a (v I 9), a (v I 10), a (v I 209), a (v I 593)]))))))))
      (.call f_spec_l1Kind [a (v I 7), a (v I 8), a (v I 9), a (v I 10), a (v (L I) 6), a (v I 0)] 207
       (.ite (ne (v I 207) (c 0))
        (.guard (le (ln (v (L T4) 5)) (c 549755813888))
         (.guard (le (ln (one (pr (v I 7) (pr (v I 8) (pr (v I 9) (v I 10)))))) (c 549755813888))
          (.guard (le (ln (v (L I) 6)) (c 549755813888))
           (.guard (le (ln (one (v I 207))) (c 549755813888))
            (.jump 0 [a (v I 0), a (v I 1), a (v I 2), a (v (L U) 3), a (v I 4), a (app (v (L T4) 5) (one (pr (v I 7) (pr (v I 8) (pr (v I 9) (v I 10)))))), a (app (v (L I) 6) (one (v I 207)))])))))
        (.jump 0 [a (v I 0), a (v I 1), a (v I 2), a (v (L U) 3), a (v I 4), a (v (L T4) 5), a (v (L I) 6)])))))
    (.jump 0 [a (v I 0), a (v I 1), a (sub (v I 2) (c 1)), a (v (L U) 3), a (v I 4), a (v (L T4) 5), a (v (L I) 6)]))
   (.join
    (.ite (eq (ln (v (L T4) 5)) (c 0))
     (.guard (le (ln (v (L T4) 5)) (c 549755813888))
      (.guard (le (ln (one (pr (c 0) (pr (c 1) (pr (c 0) (c 0)))))) (c 549755813888))
       (.guard (le (ln (v (L I) 6)) (c 549755813888))
        (.guard (le (ln (one (c 1))) (c 549755813888))
         (.jump 0 [a (v I 1), a (v (L U) 3), a (v I 4), a (app (v (L T4) 5) (one (pr (c 0) (pr (c 1) (pr (c 0) (c 0)))))), a (app (v (L I) 6) (one (c 1)))])))))
     (.jump 0 [a (v I 1), a (v (L U) 3), a (v I 4), a (v (L T4) 5), a (v (L I) 6)]))
    (.join
     (.ite (eq (v I 0) (c 2))
      (.guard (le (c 0) (sub (ln (v (L T4) 3)) (c 1)))
       (.guard (lt (sub (ln (v (L T4) 3)) (c 1)) (ln (v (L I) 4)))
        (.ite (ne (ix (v (L I) 4) (sub (ln (v (L T4) 3)) (c 1))) (v I 0))
         (.call f_spec_l40Rd_num [a (pr (v (L U) 1) (v I 2)), a (app (one (c 5)) (one (c 6)))] 1096
          (.call f_spec_l1Pick [a (pr (v (L U) 1) (s (v (P (L U) I) 1097))), a (v (L I) 4), a (c 1)] 1352
           (.guard (le (ln (v (L T4) 3)) (c 549755813888))
            (.guard (le (ln (one (pr (v I 1096) (pr (c 0) (pr (sub (ln (v (L T4) 3)) (c 1)) (v I 1352)))))) (c 549755813888))
             (.jump 0 [a (v (L U) 1), a (s (v (P (L U) I) 1353)), a (app (v (L T4) 3) (one (pr (v I 1096) (pr (c 0) (pr (sub (ln (v (L T4) 3)) (c 1)) (v I 1352))))))])))))
         (.ite (eq (v I 0) (c 1))
          (.guard (le (c 0) (sub (ln (v (L T4) 3)) (c 1)))
           (.guard (lt (sub (ln (v (L T4) 3)) (c 1)) (ln (v (L I) 4)))
            (.ite (ne (ix (v (L I) 4) (sub (ln (v (L T4) 3)) (c 1))) (v I 0))
             (.call f_spec_l1Pick [a (pr (v (L U) 1) (v I 2)), a (v (L I) 4), a (c 1)] 1672
              (.call f_spec_l40Rd_num [a (pr (v (L U) 1) (s (v (P (L U) I) 1673))), a (app (one (c 2)) (one (c 3)))] 1992
               (.call f_spec_l1Pick [a (pr (v (L U) 1) (s (v (P (L U) I) 1993))), a (v (L I) 4), a (c 1)] 2248
                (.guard (le (ln (v (L T4) 3)) (c 549755813888))
                 (.guard (le (ln (one (pr (v I 1992) (pr (c 0) (pr (v I 1672) (v I 2248)))))) (c 549755813888))
                  (.jump 0 [a (v (L U) 1), a (s (v (P (L U) I) 2249)), a (app (v (L T4) 3) (one (pr (v I 1992) (pr (c 0) (pr (v I 1672) (v I 2248))))))]))))))
             (.jump 0 [a (v (L U) 1), a (v I 2), a (v (L T4) 3)]))))
          (.jump 0 [a (v (L U) 1), a (v I 2), a (v (L T4) 3)])))))
      (.ite (eq (v I 0) (c 1))
       (.guard (le (c 0) (sub (ln (v (L T4) 3)) (c 1)))
        (.guard (lt (sub (ln (v (L T4) 3)) (c 1)) (ln (v (L I) 4)))
         (.ite (ne (ix (v (L I) 4) (sub (ln (v (L T4) 3)) (c 1))) (v I 0))
          (.call f_spec_l1Pick [a (pr (v (L U) 1) (v I 2)), a (v (L I) 4), a (c 1)] 1672
           (.call f_spec_l40Rd_num [a (pr (v (L U) 1) (s (v (P (L U) I) 1673))), a (app (one (c 2)) (one (c 3)))] 1992
            (.call f_spec_l1Pick [a (pr (v (L U) 1) (s (v (P (L U) I) 1993))), a (v (L I) 4), a (c 1)] 2248
             (.guard (le (ln (v (L T4) 3)) (c 549755813888))
              (.guard (le (ln (one (pr (v I 1992) (pr (c 0) (pr (v I 1672) (v I 2248)))))) (c 549755813888))
               (.jump 0 [a (v (L U) 1), a (s (v (P (L U) I) 2249)), a (app (v (L T4) 3) (one (pr (v I 1992) (pr (c 0) (pr (v I 1672) (v I 2248))))))]))))))
          (.jump 0 [a (v (L U) 1), a (v I 2), a (v (L T4) 3)]))))
       (.jump 0 [a (v (L U) 1), a (v I 2), a (v (L T4) 3)])))
     (.ret [a (v (L T4) 2), a (pr (v (L U) 0) (v I 1))])))))
def tr_spec_l2Value : Tr := .call f_spec_l40Rd_pick [a (pr (f (v (P (L U) I) 0)) (s (v (P (L U) I) 0))), a (c 6)] 100128
 (.ite (lt (v I 100128) (c 3))
  (.call f_spec_l2VarOf [a (v I 2)] 100448
   (.call f_spec_l2Const [a (c 1)] 100512
    (.call f_spec_l40Rd_num [a (pr (f (v (P (L U) I) 0)) (s (v (P (L U) I) 100129))), a (app (one (c 2)) (one (c 3)))] 100704
     (.ret [a (app (one (pr (v I 100448) (pr (v I 100449) (pr (v I 100450) (v I 100451))))) (app (one (pr (v I 100512) (pr (v I 100513) (pr (v I 100514) (v I 100515))))) (one (pr (v I 100704) (pr (c 0) (pr (c 0) (c 1))))))), a (pr (f (v (P (L U) I) 0)) (s (v (P (L U) I) 100705)))]))))
  (.ite (eq (v I 100128) (c 3))
   (.guard (le (c 0) (v I 2))
    (.guard (lt (v I 2) (ln (v (L V3) 1)))
     (.guard (le (c 0) (v I 2))
      (.guard (lt (v I 2) (ln (v (L V3) 1)))
       (.guard (le (c 0) (v I 2))
        (.guard (lt (v I 2) (ln (v (L V3) 1)))
         (.call f_spec_l40Rd_pick [a (pr (f (v (P (L U) I) 0)) (s (v (P (L U) I) 100129))), a (add (sub (f (s (ix (v (L V3) 1) (v I 2)))) (f (ix (v (L V3) 1) (v I 2)))) (c 1))] 101664
          (.call f_spec_l2Const [a (add (f (ix (v (L V3) 1) (v I 2))) (v I 101664))] 101792
           (.join
            (.jump 0 [a (f (v (P (L U) I) 0)), a (s (v (P (L U) I) 101665)), a (one (pr (v I 101792) (pr (v I 101793) (pr (v I 101794) (v I 101795)))))])
            (.ret [a (v (L T4) 2), a (pr (v (L U) 0) (v I 1))]))))))))))
   (.ite (eq (v I 100128) (c 4))
    (.call f_spec_l40Rd_pick [a (pr (f (v (P (L U) I) 0)) (s (v (P (L U) I) 100129))), a (ln (v (L V3) 1))] 100832
     (.call f_spec_l2VarOf [a (v I 100832)] 100896
      (.ret [a (one (pr (v I 100896) (pr (v I 100897) (pr (v I 100898) (v I 100899))))), a (pr (f (v (P (L U) I) 0)) (s (v (P (L U) I) 100833)))])))
    (.call f_spec_l1Terms [a (pr (f (v (P (L U) I) 0)) (s (v (P (L U) I) 100129))), a (ln (v (L V3) 1)), a (c 1), a (c 5)] 100832
     (.ret [a (v (L T4) 100832), a (pr (f (v (P (L U) I) 0)) (s (v (P (L U) I) 100833)))])))))
def tr_spec_l2Rules : Tr := .loop [a (v (L V3) 1), a (v I 2), a (c 0), a (f (v (P (L U) I) 0)), a (s (v (P (L U) I) 0)), a (nl TR)]
 (.ite (lt (v I 2) (v I 1))
  (.call f_spec_l2When [a (pr (v (L U) 3) (v I 4)), a (v (L V3) 0)] 328
   (.loop [a (v (L V3) 0), a (v I 1), a (v I 2), a (c 0), a (v (L U) 3), a (s (v (P (L U) I) 329)), a (v (L TR) 5), a (v (L T4) 328), a (nl I), a (nl (L T4))]
    (.ite (lt (v I 3) (ln (v (L V3) 0)))
     (.join
      (.call f_spec_l40Rd_pick [a (pr (v (L U) 4) (v I 5)), a (add (ln (v (L V3) 0)) (c 1))] 528
       (.ite (lt (v I 528) (c 1))
        (.guard (le (ln (v (L I) 8)) (c 549755813888))
         (.guard (le (ln (one (v I 3))) (c 549755813888))
          (.call f_spec_l2Value [a (pr (v (L U) 4) (s (v (P (L U) I) 529))), a (v (L V3) 0), a (v I 3)] 2576
           (.guard (le (ln (v (L (L T4)) 9)) (c 549755813888))
            (.guard (le (ln (one (v (L T4) 2576))) (c 549755813888))
             (.join
              (.jump 0 [a (v (L V3) 0), a (v I 1), a (v I 2), a (v I 3), a (v (L U) 4), a (s (v (P (L U) I) 2577)), a (v (L TR) 6), a (v (L T4) 7), a (app (v (L I) 8) (one (v I 3))), a (app (v (L (L T4)) 9) (one (v (L T4) 2576)))])
              (.jump 0 [a (v (L V3) 0), a (v I 1), a (v I 2), a (v I 3), a (v (L U) 4), a (v I 5), a (v (L TR) 6), a (v (L T4) 7), a (v (L I) 8), a (v (L (L T4)) 9)])))))))
        (.ite (eq (v I 3) (sub (ln (v (L V3) 0)) (c 1)))
         (.ite (eq (ln (v (L I) 8)) (c 0))
          (.call f_spec_l40Rd_pick [a (pr (v (L U) 4) (s (v (P (L U) I) 529))), a (c 9)] 1552
           (.ite (gt (v I 1552) (c 0))
            (.guard (le (ln (v (L I) 8)) (c 549755813888))
             (.guard (le (ln (one (v I 3))) (c 549755813888))
              (.call f_spec_l2Value [a (pr (v (L U) 4) (s (v (P (L U) I) 1553))), a (v (L V3) 0), a (v I 3)] 2576
               (.guard (le (ln (v (L (L T4)) 9)) (c 549755813888))
                (.guard (le (ln (one (v (L T4) 2576))) (c 549755813888))
                 (.join
                  (.jump 0 [a (v (L V3) 0), a (v I 1), a (v I 2), a (v I 3), a (v (L U) 4), a (s (v (P (L U) I) 2577)), a (v (L TR) 6), a (v (L T4) 7), a (app (v (L I) 8) (one (v I 3))), a (app (v (L (L T4)) 9) (one (v (L T4) 2576)))])
                  (.jump 0 [a (v (L V3) 0), a (v I 1), a (v I 2), a (v I 3), a (v (L U) 4), a (v I 5), a (v (L TR) 6), a (v (L T4) 7), a (v (L I) 8), a (v (L (L T4)) 9)])))))))
            (.jump 0 [a (v (L V3) 0), a (v I 1), a (v I 2), a (v I 3), a (v (L U) 4), a (s (v (P (L U) I) 1553)), a (v (L TR) 6), a (v (L T4) 7), a (v (L I) 8), a (v (L (L T4)) 9)])))
          (.jump 0 [a (v (L V3) 0), a (v I 1), a (v I 2), a (v I 3), a (v (L U) 4), a (s (v (P (L U) I) 529)), a (v (L TR) 6), a (v (L T4) 7), a (v (L I) 8), a (v (L (L T4)) 9)]))
         (.jump 0 [a (v (L V3) 0), a (v I 1), a (v I 2), a (v I 3), a (v (L U) 4), a (s (v (P (L U) I) 529)), a (v (L TR) 6), a (v (L T4) 7), a (v (L I) 8), a (v (L (L T4)) 9)]))))
      (.jump 0 [a (v (L V3) 0), a (v I 1), a (v I 2), a (add (v I 3) (c 1)), a (v (L U) 4), a (v I 5), a (v (L TR) 6), a (v (L T4) 7), a (v (L I) 8), a (v (L (L T4)) 9)]))
     (.guard (le (ln (v (L TR) 6)) (c 549755813888))
      (.guard (le (ln (one (pr (v (L T4) 7) (pr (v (L I) 8) (v (L (L T4)) 9))))) (c 549755813888))
       (.jump 1 [a (v (L V3) 0), a (v I 1), a (add (v I 2) (c 1)), a (v (L U) 4), a (v I 5), a (app (v (L TR) 6) (one (pr (v (L T4) 7) (pr (v (L I) 8) (v (L (L T4)) 9)))))]))))))
  (.ret [a (v (L TR) 5), a (pr (v (L U) 3) (v I 4))]))
def tr_spec_l2System : Tr := .call f_spec_l40Rd_pick [a (pr (f (v (P (L U) I) 0)) (s (v (P (L U) I) 0))), a (c 3)] 100384
 (.loop [a (v I 1), a (c 1), a (add (c 1) (v I 100384)), a (f (v (P (L U) I) 0)), a (s (v (P (L U) I) 100385)), a (nl V3)]
  (.ite (gt (v I 2) (c 0))
   (.join
    (.call f_spec_l40Rd_num [a (pr (v (L U) 3) (v I 4)), a (app (one (c 2)) (app (one (c 3)) (app (one (c 2)) (app (one (c 4)) (one (c 5))))))] 266
     (.ite (le (mul (v I 1) (v I 266)) (v I 0))
      (.call f_spec_l40Rd_num [a (pr (v (L U) 3) (s (v (P (L U) I) 267))), a (app (one (c 0)) (app (one (c 0)) (app (one (c 0)) (app (one (c (-1))) (one (c 2))))))] 842
       (.call f_spec_l40Rd_pick [a (pr (v (L U) 3) (s (v (P (L U) I) 843))), a (v I 266)] 1610
        (.guard (le (ln (v (L V3) 5)) (c 549755813888))
         (.guard (le (ln (one (pr (v I 842) (pr (sub (add (v I 842) (v I 266)) (c 1)) (add (v I 842) (v I 1610)))))) (c 549755813888))
          (.join
           (.jump 0 [a (v I 0), a (v I 1), a (v I 2), a (v I 266), a (v (L U) 3), a (s (v (P (L U) I) 1611)), a (app (v (L V3) 5) (one (pr (v I 842) (pr (sub (add (v I 842) (v I 266)) (c 1)) (add (v I 842) (v I 1610))))))])
           (.jump 0 [a (v I 0), a (mul (v I 1) (v I 3)), a (v I 2), a (v (L U) 4), a (v I 5), a (v (L V3) 6)]))))))
      (.jump 0 [a (v I 0), a (v I 1), a (v I 2), a (v (L U) 3), a (s (v (P (L U) I) 267)), a (v (L V3) 5)])))
    (.jump 0 [a (v I 0), a (v I 1), a (sub (v I 2) (c 1)), a (v (L U) 3), a (v I 4), a (v (L V3) 5)]))
   (.join
    (.ite (eq (ln (v (L V3) 5)) (c 0))
     (.guard (le (ln (v (L V3) 5)) (c 549755813888))
      (.guard (le (ln (one (pr (c 0) (pr (c 1) (c 0))))) (c 549755813888))
       (.jump 0 [a (v (L U) 3), a (v I 4), a (app (v (L V3) 5) (one (pr (c 0) (pr (c 1) (c 0)))))])))
     (.jump 0 [a (v (L U) 3), a (v I 4), a (v (L V3) 5)]))
    (.call f_spec_l40Rd_num [a (pr (v (L U) 0) (v I 1)), a (app (one (c 1)) (app (one (c 2)) (app (one (c 3)) (app (one (c 4)) (app (one (c 2)) (app (one (c 3)) (one (c 0))))))))] 327
     (.call f_spec_l2Rules [a (pr (v (L U) 0) (s (v (P (L U) I) 328))), a (v (L V3) 2), a (v I 327)] 391
      (.join
       (.jump 0 [a (v (L U) 0), a (s (v (P (L U) I) 392)), a (v (L V3) 2), a (v (L TR) 391)])
       (.ret [a (v (L V3) 2), a (v (L TR) 3), a (pr (v (L U) 0) (v I 1))])))))))
def tr_spec_l2Any : Tr := .call f_spec_l2System [a (pr (f (v (P (L U) I) 0)) (s (v (P (L U) I) 0))), a (v I 1)] 100192
 (.join
  (.call f_spec_l40Rd_pick [a (pr (f (v (P (L U) I) 0)) (s (v (P (L U) I) 100194))), a (c 14)] 100448
   (.ite (eq (v I 100448) (c 0))
    (.call f_spec_l40Rd_pick [a (pr (f (v (P (L U) I) 0)) (s (v (P (L U) I) 100449))), a (c 6)] 100640
     (.ite (eq (v I 100640) (c 0))
      (.guard (lt (c 0) (ln (v (L V3) 100192)))
       (.guard (lt (c 0) (ln (v (L V3) 100192)))
        (.jump 0 [a (f (v (P (L U) I) 0)), a (s (v (P (L U) I) 100641)), a (st (v (L V3) 100192) (c 0) (pr (f (ix (v (L V3) 100192) (c 0))) (pr (f (s (ix (v (L V3) 100192) (c 0)))) (add (f (s (ix (v (L V3) 100192) (c 0)))) (c 1))))), a (v (L TR) 100193)])))
      (.ite (eq (v I 100640) (c 1))
       (.guard (lt (c 0) (ln (v (L V3) 100192)))
        (.call f_spec_l40Rd_num [a (pr (f (v (P (L U) I) 0)) (s (v (P (L U) I) 100641))), a (app (one (c (-1))) (app (one (c 20)) (one (c 19))))] 101600
         (.guard (lt (c 0) (ln (v (L V3) 100192)))
          (.join
           (.jump 0 [a (f (v (P (L U) I) 0)), a (s (v (P (L U) I) 101601)), a (st (v (L V3) 100192) (c 0) (pr (f (ix (v (L V3) 100192) (c 0))) (pr (add (f (ix (v (L V3) 100192) (c 0))) (v I 101600)) (s (s (ix (v (L V3) 100192) (c 0))))))), a (v (L TR) 100193)])
           (.jump 0 [a (v (L U) 0), a (v I 1), a (v (L V3) 2), a (v (L TR) 3)])))))
       (.ite (eq (v I 100640) (c 2))
        (.ite (gt (ln (v (L TR) 100193)) (c 0))
         (.call f_spec_l2Const [a (c 1)] 101664
          (.guard (lt (c 0) (ln (v (L TR) 100193)))
           (.jump 0 [a (f (v (P (L U) I) 0)), a (s (v (P (L U) I) 100641)), a (v (L V3) 100192), a (st (v (L TR) 100193) (c 0) (pr (one (pr (v I 101664) (pr (v I 101665) (pr (v I 101666) (v I 101667))))) (s (ix (v (L TR) 100193) (c 0)))))])))
         (.ite (eq (v I 100640) (c 3))
          (.ite (gt (ln (v (L TR) 100193)) (c 0))
           (.guard (lt (c 0) (ln (v (L TR) 100193)))
            (.guard (le (ln (f (s (ix (v (L TR) 100193) (c 0))))) (c 549755813888))
             (.guard (le (ln (one (ln (v (L V3) 100192)))) (c 549755813888))
              (.guard (lt (c 0) (ln (v (L TR) 100193)))
               (.join
                (.jump 0 [a (f (v (P (L U) I) 0)), a (s (v (P (L U) I) 100641)), a (v (L V3) 100192), a (st (v (L TR) 100193) (c 0) (pr (f (ix (v (L TR) 100193) (c 0))) (pr (app (f (s (ix (v (L TR) 100193) (c 0)))) (one (ln (v (L V3) 100192)))) (s (s (ix (v (L TR) 100193) (c 0)))))))])
                (.jump 0 [a (v (L U) 0), a (v I 1), a (v (L V3) 2), a (v (L TR) 3)]))))))
           (.ite (eq (v I 100640) (c 4))
            (.jump 0 [a (f (v (P (L U) I) 0)), a (s (v (P (L U) I) 100641)), a (nl V3), a (v (L TR) 100193)])
            (.ite (gt (ln (v (L TR) 100193)) (c 0))
             (.guard (lt (c 0) (ln (v (L TR) 100193)))
              (.call f_spec_l2Const [a (c 0)] 102880
               (.guard (le (ln (s (s (ix (v (L TR) 100193) (c 0))))) (c 549755813888))
                (.guard (le (ln (one (one (pr (v I 102880) (pr (v I 102881) (pr (v I 102882) (v I 102883))))))) (c 549755813888))
                 (.guard (lt (c 0) (ln (v (L TR) 100193)))
                  (.join
                   (.jump 0 [a (f (v (P (L U) I) 0)), a (s (v (P (L U) I) 100641)), a (v (L V3) 100192), a (st (v (L TR) 100193) (c 0) (pr (f (ix (v (L TR) 100193) (c 0))) (pr (f (s (ix (v (L TR) 100193) (c 0)))) (app (s (s (ix (v (L TR) 100193) (c 0)))) (one (one (pr (v I 102880) (pr (v I 102881) (pr (v I 102882) (v I 102883))))))))))])
                   (.jump 0 [a (v (L U) 0), a (v I 1), a (v (L V3) 2), a (v (L TR) 3)])))))))
             (.jump 0 [a (f (v (P (L U) I) 0)), a (s (v (P (L U) I) 100641)), a (v (L V3) 100192), a (v (L TR) 100193)]))))
          (.ite (eq (v I 100640) (c 4))
           (.jump 0 [a (f (v (P (L U) I) 0)), a (s (v (P (L U) I) 100641)), a (nl V3), a (v (L TR) 100193)])
           (.ite (gt (ln (v (L TR) 100193)) (c 0))
            (.guard (lt (c 0) (ln (v (L TR) 100193)))
             (.call f_spec_l2Const [a (c 0)] 102880
              (.guard (le (ln (s (s (ix (v (L TR) 100193) (c 0))))) (c 549755813888))
               (.guard (le (ln (one (one (pr (v I 102880) (pr (v I 102881) (pr (v I 102882) (v I 102883))))))) (c 549755813888))
                (.guard (lt (c 0) (ln (v (L TR) 100193)))
                 (.join
                  (.jump 0 [a (f (v (P (L U) I) 0)), a (s (v (P (L U) I) 100641)), a (v (L V3) 100192), a (st (v (L TR) 100193) (c 0) (pr (f (ix (v (L TR) 100193) (c 0))) (pr (f (s (ix (v (L TR) 100193) (c 0)))) (app (s (s (ix (v (L TR) 100193) (c 0)))) (one (one (pr (v I 102880) (pr (v I 102881) (pr (v I 102882) (v I 102883))))))))))])
                  (.jump 0 [a (v (L U) 0), a (v I 1), a (v (L V3) 2), a (v (L TR) 3)])))))))
            (.jump 0 [a (f (v (P (L U) I) 0)), a (s (v (P (L U) I) 100641)), a (v (L V3) 100192), a (v (L TR) 100193)])))))
        (.ite (eq (v I 100640) (c 3))
         (.ite (gt (ln (v (L TR) 100193)) (c 0))
          (.guard (lt (c 0) (ln (v (L TR) 100193)))
           (.guard (le (ln (f (s (ix (v (L TR) 100193) (c 0))))) (c 549755813888))
            (.guard (le (ln (one (ln (v (L V3) 100192)))) (c 549755813888))
             (.guard (lt (c 0) (ln (v (L TR) 100193)))
              (.join
               (.jump 0 [a (f (v (P (L U) I) 0)), a (s (v (P (L U) I) 100641)), a (v (L V3) 100192), a (st (v (L TR) 100193) (c 0) (pr (f (ix (v (L TR) 100193) (c 0))) (pr (app (f (s (ix (v (L TR) 100193) (c 0)))) (one (ln (v (L V3) 100192)))) (s (s (ix (v (L TR) 100193) (c 0)))))))])
               (.jump 0 [a (v (L U) 0), a (v I 1), a (v (L V3) 2), a (v (L TR) 3)]))))))
          (.ite (eq (v I 100640) (c 4))
           (.jump 0 [a (f (v (P (L U) I) 0)), a (s (v (P (L U) I) 100641)), a (nl V3), a (v (L TR) 100193)])
           (.ite (gt (ln (v (L TR) 100193)) (c 0))
            (.guard (lt (c 0) (ln (v (L TR) 100193)))
             (.call f_spec_l2Const [a (c 0)] 102880
              (.guard (le (ln (s (s (ix (v (L TR) 100193) (c 0))))) (c 549755813888))
               (.guard (le (ln (one (one (pr (v I 102880) (pr (v I 102881) (pr (v I 102882) (v I 102883))))))) (c 549755813888))
                (.guard (lt (c 0) (ln (v (L TR) 100193)))
                 (.join
                  (.jump 0 [a (f (v (P (L U) I) 0)), a (s (v (P (L U) I) 100641)), a (v (L V3) 100192), a (st (v (L TR) 100193) (c 0) (pr (f (ix (v (L TR) 100193) (c 0))) (pr (f (s (ix (v (L TR) 100193) (c 0)))) (app (s (s (ix (v (L TR) 100193) (c 0)))) (one (one (pr (v I 102880) (pr (v I 102881) (pr (v I 102882) (v I 102883))))))))))])
                  (.jump 0 [a (v (L U) 0), a (v I 1), a (v (L V3) 2), a (v (L TR) 3)])))))))
            (.jump 0 [a (f (v (P (L U) I) 0)), a (s (v (P (L U) I) 100641)), a (v (L V3) 100192), a (v (L TR) 100193)]))))
         (.ite (eq (v I 100640) (c 4))
          (.jump 0 [a (f (v (P (L U) I) 0)), a (s (v (P (L U) I) 100641)), a (nl V3), a (v (L TR) 100193)])
          (.ite (gt (ln (v (L TR) 100193)) (c 0))
           (.guard (lt (c 0) (ln (v (L TR) 100193)))
            (.call f_spec_l2Const [a (c 0)] 102880
             (.guard (le (ln (s (s (ix (v (L TR) 100193) (c 0))))) (c 549755813888))
              (.guard (le (ln (one (one (pr (v I 102880) (pr (v I 102881) (pr (v I 102882) (v I 102883))))))) (c 549755813888))
               (.guard (lt (c 0) (ln (v (L TR) 100193)))
                (.join
                 (.jump 0 [a (f (v (P (L U) I) 0)), a (s (v (P (L U) I) 100641)), a (v (L V3) 100192), a (st (v (L TR) 100193) (c 0) (pr (f (ix (v (L TR) 100193) (c 0))) (pr (f (s (ix (v (L TR) 100193) (c 0)))) (app (s (s (ix (v (L TR) 100193) (c 0)))) (one (one (pr (v I 102880) (pr (v I 102881) (pr (v I 102882) (v I 102883))))))))))])
                 (.jump 0 [a (v (L U) 0), a (v I 1), a (v (L V3) 2), a (v (L TR) 3)])))))))
           (.jump 0 [a (f (v (P (L U) I) 0)), a (s (v (P (L U) I) 100641)), a (v (L V3) 100192), a (v (L TR) 100193)]))))))))
    (.jump 0 [a (f (v (P (L U) I) 0)), a (s (v (P (L U) I) 100449)), a (v (L V3) 100192), a (v (L TR) 100193)])))
  (.ret [a (v (L V3) 2), a (v (L TR) 3), a (pr (v (L U) 0) (v I 1))]))
def tr_spec_Shifted : Tr := .call f_spec_TermsValid [a (v (L T4) 0), a (v I 1)] 100192
 (.ite (nt (v B 100192))
  (.ret [a (nl T4)])
  (.call f_spec_l1In [a (v I 2), a (c 0), a (sub (c 5) (v I 1))] 100576
   (.ite (nt (v B 100576))
    (.ret [a (nl T4)])
    (.loop [a (v (L T4) 0), a (v I 2), a (c 0), a (nl T4)]
     (.ite (lt (v I 2) (ln (v (L T4) 0)))
      (.guard (le (c 0) (v I 2))
       (.guard (lt (v I 2) (ln (v (L T4) 0)))
        (.join
         (.ite (eq (f (ix (v (L T4) 0) (v I 2))) (c 1))
          (.jump 0 [a (v (L T4) 0), a (v I 1), a (v I 2), a (v (L T4) 3), a (f (ix (v (L T4) 0) (v I 2))), a (add (f (s (ix (v (L T4) 0) (v I 2)))) (v I 1)), a (f (s (s (ix (v (L T4) 0) (v I 2))))), a (s (s (s (ix (v (L T4) 0) (v I 2)))))])
          (.jump 0 [a (v (L T4) 0), a (v I 1), a (v I 2), a (v (L T4) 3), a (f (ix (v (L T4) 0) (v I 2))), a (f (s (ix (v (L T4) 0) (v I 2)))), a (f (s (s (ix (v (L T4) 0) (v I 2))))), a (s (s (s (ix (v (L T4) 0) (v I 2)))))]))
         (.guard (le (ln (v (L T4) 3)) (c 549755813888))
          (.guard (le (ln (one (pr (v I 4) (pr (v I 5) (pr (v I 6) (v I 7)))))) (c 549755813888))
           (.jump 0 [a (v (L T4) 0), a (v I 1), a (add (v I 2) (c 1)), a (app (v (L T4) 3) (one (pr (v I 4) (pr (v I 5) (pr (v I 6) (v I 7))))))]))))))
      (.ret [a (v (L T4) 3)]))))))
def tr_spec_l26System : Tr := .call f_spec_l40Rd_pick [a (pr (f (v (P (L U) I) 0)) (s (v (P (L U) I) 0))), a (c 4)] 100128
 (.ite (eq (v I 100128) (c 0))
  (.call f_spec_l2Any [a (pr (f (v (P (L U) I) 0)) (s (v (P (L U) I) 100129))), a (c 24)] 100320
   (.ret [a (v (L V3) 100320), a (v (L TR) 100321), a (pr (f (v (P (L U) I) 0)) (s (v (P (L U) I) 100322)))]))
  (.call f_spec_l40Rd_pick [a (pr (f (v (P (L U) I) 0)) (s (v (P (L U) I) 100129))), a (c 2)] 100512
   (.loop [a (add (c 2) (v I 100512)), a (f (v (P (L U) I) 0)), a (s (v (P (L U) I) 100513)), a (nl V3)]
    (.ite (gt (v I 0) (c 0))
     (.call f_spec_l40Rd_num [a (pr (v (L U) 1) (v I 2)), a (app (one (c 2)) (app (one (c 3)) (one (c 2))))] 264
      (.call f_spec_l40Rd_pick [a (pr (v (L U) 1) (s (v (P (L U) I) 265))), a (v I 264)] 776
       (.guard (le (ln (v (L V3) 3)) (c 549755813888))
        (.guard (le (ln (one (pr (c 0) (pr (sub (v I 264) (c 1)) (v I 776))))) (c 549755813888))
         (.join
          (.jump 0 [a (v I 0), a (v (L U) 1), a (s (v (P (L U) I) 777)), a (app (v (L V3) 3) (one (pr (c 0) (pr (sub (v I 264) (c 1)) (v I 776)))))])
          (.jump 0 [a (sub (v I 0) (c 1)), a (v (L U) 1), a (v I 2), a (v (L V3) 3)]))))))
     (.call f_spec_l40Rd_pick [a (pr (v (L U) 1) (v I 2)), a (c 3)] 200
      (.loop [a (add (c 2) (v I 200)), a (v (L U) 1), a (s (v (P (L U) I) 201)), a (v (L V3) 3), a (nl TR)]
       (.ite (gt (v I 0) (c 0))
        (.call f_spec_l40Rd_pick [a (pr (v (L U) 1) (v I 2)), a (ln (v (L V3) 3))] 393
         (.guard (le (c 0) (v I 393))
          (.guard (lt (v I 393) (ln (v (L V3) 3)))
           (.call f_spec_l2Cond [a (pr (v (L U) 1) (s (v (P (L U) I) 394))), a (f (ix (v (L V3) 3) (v I 393))), a (f (s (ix (v (L V3) 3) (v I 393)))), a (s (s (ix (v (L V3) 3) (v I 393)))), a (v I 393)] 969
            (.join
             (.call f_spec_l40Rd_pick [a (pr (v (L U) 1) (s (v (P (L U) I) 970))), a (c 3)] 1161
              (.ite (eq (v I 1161) (c 0))
               (.call f_spec_l40Rd_pick [a (pr (v (L U) 1) (s (v (P (L U) I) 1162))), a (ln (v (L V3) 3))] 1545
                (.guard (le (c 0) (v I 1545))
                 (.guard (lt (v I 1545) (ln (v (L V3) 3)))
                  (.call f_spec_l2Cond [a (pr (v (L U) 1) (s (v (P (L U) I) 1546))), a (f (ix (v (L V3) 3) (v I 1545))), a (f (s (ix (v (L V3) 3) (v I 1545)))), a (s (s (ix (v (L V3) 3) (v I 1545)))), a (v I 1545)] 2249
                   (.call f_spec_Joined [a (c 8), a (v (L T4) 969), a (v (L T4) 2249), a (ln (v (L V3) 3))] 2441
                    (.join
                     (.jump 0 [a (v I 0), a (v I 393), a (v (L U) 1), a (s (v (P (L U) I) 2250)), a (v (L V3) 3), a (v (L TR) 4), a (v (L T4) 2441)])
                     (.jump 0 [a (v I 0), a (v I 1), a (v (L U) 2), a (v I 3), a (v (L V3) 4), a (v (L TR) 5), a (v (L T4) 6)])))))))
               (.jump 0 [a (v I 0), a (v I 393), a (v (L U) 1), a (s (v (P (L U) I) 1162)), a (v (L V3) 3), a (v (L TR) 4), a (v (L T4) 969)])))
             (.guard (le (add (v I 1) (c 1)) (ln (re false (v (L V3) 4))))
              (.guard (le (c 0) (v I 1))
               (.guard (le (v I 1) (add (v I 1) (c 1)))
                (.call f_spec_l2Value [a (pr (v (L U) 2) (v I 3)), a (drop (take (re false (v (L V3) 4)) (add (v I 1) (c 1))) (v I 1)), a (c 0)] 780
                 (.guard (le (ln (v (L TR) 5)) (c 549755813888))
                  (.guard (le (ln (one (pr (v (L T4) 6) (pr (one (v I 1)) (one (v (L T4) 780)))))) (c 549755813888))
                   (.join
                    (.jump 0 [a (v I 0), a (v I 1), a (v (L U) 2), a (s (v (P (L U) I) 781)), a (v (L V3) 4), a (app (v (L TR) 5) (one (pr (v (L T4) 6) (pr (one (v I 1)) (one (v (L T4) 780))))))])
                    (.guard (le (c 0) (sub (ln (v (L TR) 5)) (c 1)))
                     (.guard (lt (sub (ln (v (L TR) 5)) (c 1)) (ln (v (L TR) 5)))
                      (.guard (le (c 0) (sub (ln (v (L TR) 5)) (c 1)))
                       (.guard (lt (sub (ln (v (L TR) 5)) (c 1)) (ln (v (L TR) 5)))
                        (.guard (lt (c 0) (ln (s (s (ix (v (L TR) 5) (sub (ln (v (L TR) 5)) (c 1)))))))
                         (.call f_spec_Shifted [a (ix (s (s (ix (v (L TR) 5) (sub (ln (v (L TR) 5)) (c 1))))) (c 0)), a (c 1), a (v I 1)] 1290
                          (.guard (lt (c 0) (ln (s (s (ix (v (L TR) 5) (sub (ln (v (L TR) 5)) (c 1)))))))
                           (.jump 0 [a (sub (v I 0) (c 1)), a (v (L U) 2), a (v I 3), a (v (L V3) 4), a (st (v (L TR) 5) (sub (ln (v (L TR) 5)) (c 1)) (pr (f (ix (v (L TR) 5) (sub (ln (v (L TR) 5)) (c 1)))) (pr (f (s (ix (v (L TR) 5) (sub (ln (v (L TR) 5)) (c 1))))) (st (s (s (ix (v (L TR) 5) (sub (ln (v (L TR) 5)) (c 1))))) (c 0) (v (L T4) 1290)))))]))))))))))))))))))))
        (.ret [a (v (L V3) 3), a (v (L TR) 4), a (pr (v (L U) 1) (v I 2))]))))))))
def tr_spec_l2Some : Tr := .loop [a (c 0), a (f (v (P (L U) I) 0)), a (s (v (P (L U) I) 0)), a (v (L V3) 1), a (v (L TR) 2), a (nl I)]
 (.ite (lt (v I 0) (ln (v (L V3) 3)))
  (.guard (le (c 0) (v I 0))
   (.guard (lt (v I 0) (ln (v (L V3) 3)))
    (.guard (le (c 0) (v I 0))
     (.guard (lt (v I 0) (ln (v (L V3) 3)))
      (.guard (le (c 0) (v I 0))
       (.guard (lt (v I 0) (ln (v (L V3) 3)))
        (.join
         (.ite (gt (add (sub (f (s (ix (v (L V3) 3) (v I 0)))) (f (ix (v (L V3) 3) (v I 0)))) (c 1)) (c 0))
          (.ite (lt (add (sub (f (s (ix (v (L V3) 3) (v I 0)))) (f (ix (v (L V3) 3) (v I 0)))) (c 1)) (c 100))
           (.call f_spec_l40Rd_pick [a (pr (v (L U) 1) (v I 2)), a (add (sub (f (s (ix (v (L V3) 3) (v I 0)))) (f (ix (v (L V3) 3) (v I 0)))) (c 1))] 2313
            (.jump 0 [a (v I 0), a (add (f (ix (v (L V3) 3) (v I 0))) (v I 2313)), a (v (L U) 1), a (s (v (P (L U) I) 2314)), a (v (L V3) 3), a (v (L TR) 4), a (v (L I) 5)]))
           (.jump 0 [a (v I 0), a (f (ix (v (L V3) 3) (v I 0))), a (v (L U) 1), a (v I 2), a (v (L V3) 3), a (v (L TR) 4), a (v (L I) 5)]))
          (.jump 0 [a (v I 0), a (f (ix (v (L V3) 3) (v I 0))), a (v (L U) 1), a (v I 2), a (v (L V3) 3), a (v (L TR) 4), a (v (L I) 5)]))
         (.guard (le (ln (v (L I) 6)) (c 549755813888))
          (.guard (le (ln (one (v I 1))) (c 549755813888))
           (.jump 0 [a (add (v I 0) (c 1)), a (v (L U) 2), a (v I 3), a (v (L V3) 4), a (v (L TR) 5), a (app (v (L I) 6) (one (v I 1)))]))))))))))
  (.join
   (.call f_spec_l40Rd_pick [a (pr (v (L U) 1) (v I 2)), a (c 15)] 393
    (.ite (eq (v I 393) (c 0))
     (.call f_spec_l40Rd_pick [a (pr (v (L U) 1) (s (v (P (L U) I) 394))), a (c 2)] 585
      (.ite (eq (v I 585) (c 0))
       (.guard (le (ln (v (L I) 5)) (c 549755813888))
        (.guard (le (ln (one (c 0))) (c 549755813888))
         (.jump 0 [a (v (L U) 1), a (s (v (P (L U) I) 586)), a (app (v (L I) 5) (one (c 0)))])))
       (.ite (eq (ln (v (L I) 5)) (c 0))
        (.guard (le (ln (v (L I) 5)) (c 549755813888))
         (.guard (le (ln (one (c 0))) (c 549755813888))
          (.jump 0 [a (v (L U) 1), a (s (v (P (L U) I) 586)), a (app (v (L I) 5) (one (c 0)))])))
        (.guard (lt (c 0) (ln (v (L V3) 3)))
         (.guard (lt (c 0) (ln (v (L I) 5)))
          (.jump 0 [a (v (L U) 1), a (s (v (P (L U) I) 586)), a (st (v (L I) 5) (c 0) (add (f (s (ix (v (L V3) 3) (c 0)))) (c 1)))]))))))
     (.jump 0 [a (v (L U) 1), a (s (v (P (L U) I) 394)), a (v (L I) 5)])))
   (.ret [a (v (L I) 2), a (pr (v (L U) 0) (v I 1))])))
def tr_spec_l26Two : Tr := .call f_spec_l40Open [a (v (L U) 0)] 100320
 (.call f_spec_l26System [a (pr (f (v (P (L U) I) 100320)) (s (v (P (L U) I) 100320)))] 100512
  (.call f_spec_l2Some [a (pr (f (v (P (L U) I) 100320)) (s (v (P (L U) I) 100514))), a (v (L V3) 100512), a (v (L TR) 100513)] 100832
   (.call f_spec_l40Rd_pick [a (pr (f (v (P (L U) I) 100320)) (s (v (P (L U) I) 100833))), a (add (ln (v (L TR) 100513)) (c 1))] 101600
    (.call f_spec_l40Rd_pick [a (pr (f (v (P (L U) I) 100320)) (s (v (P (L U) I) 101601))), a (c 12)] 101664
     (.call f_spec_l40Rd_pick [a (pr (f (v (P (L U) I) 100320)) (s (v (P (L U) I) 101665))), a (add (ln (v (L TR) 100513)) (c 1))] 102048
      (.join
       (.jump 0 [a (sub (v I 101600) (quo (v I 101664) (c 11))), a (v I 102048), a (v (L V3) 100512), a (v (L TR) 100513), a (v (L I) 100832)])
       (.ret [a (v (L V3) 2), a (v (L TR) 3), a (v (L I) 4), a (v I 0), a (v I 1)])))))))
def tr_spec_DrawRulesApart : Tr := .call f_spec_l26Two [a (v (L U) 0)] 100256
 (.ret [a (v (L V3) 100256), a (v (L TR) 100257), a (v I 100259), a (v I 100260)])
def tr_impl_in : Tr := .ite (ge (v I 0) (v I 1))
 (.ret [a (le (v I 0) (v I 2))])
 (.ret [a (k false)])
def tr_impl_varOk : Tr := .call f_impl_in [a (v I 0), a (c (-9999)), a (c 9999)] 100256
 (.ite (v B 100256)
  (.call f_impl_in [a (v I 1), a (v I 0), a (c 9999)] 100640
   (.ite (v B 100640)
    (.ite (lt (sub (v I 1) (v I 0)) (c 20))
     (.call f_impl_in [a (v I 2), a (v I 0), a (v I 1)] 101728
      (.ret [a (v B 101728)]))
     (.ret [a (k false)]))
    (.ret [a (k false)])))
  (.ret [a (k false)]))
def tr_impl_size : Tr := .loop [a (c 1), a (v (L V3) 0), a (ln (v (L V3) 0)), a (c 0)]
 (.ite (lt (v I 3) (v I 2))
  (.guard (le (c 0) (v I 3))
   (.guard (lt (v I 3) (ln (v (L V3) 1)))
    (.jump 0 [a (mul (v I 0) (add (sub (f (s (ix (v (L V3) 1) (v I 3)))) (f (ix (v (L V3) 1) (v I 3)))) (c 1))), a (v (L V3) 1), a (v I 2), a (add (v I 3) (c 1))])))
  (.ret [a (v I 0)]))
def tr_impl_parts : Tr := .ite (eq (v I 0) (c 2))
 (.ret [a (c 2), a (c 1), a (c 1)])
 (.ite (eq (v I 0) (c 3))
  (.ret [a (c 2), a (c 1), a (c 1)])
  (.ite (eq (v I 0) (c 4))
   (.ret [a (c 2), a (c 1), a (c 1)])
   (.ite (eq (v I 0) (c 5))
    (.ret [a (c 2), a (c 1), a (c 2)])
    (.ite (eq (v I 0) (c 6))
     (.ret [a (c 2), a (c 1), a (c 2)])
     (.ite (eq (v I 0) (c 7))
      (.ret [a (c 1), a (c 2), a (c 2)])
      (.ite (eq (v I 0) (c 8))
       (.ret [a (c 2), a (c 2), a (c 2)])
       (.ite (eq (v I 0) (c 9))
        (.ret [a (c 2), a (c 2), a (c 2)])
        (.ret [a (c 0), a (c 0), a (c 1)]))))))))
end Go.Proofs.YtlfinllnfggiiaaGreat
namespace Go.Proofs.YtlfinllnfggiiaaGreat
open Go Go.Sm Go.Sm.Q
def tr_impl_kindsOf : Tr := .call f_impl_in [a (v I 1), a (c 0), a (c 5)] 100128
 (.ite (nt (v B 100128))
  (.ret [a (.nil true I)])
  (.call f_impl_in [a (ln (v (L T4) 0)), a (c 1), a (c 40)] 100448
   (.ite (nt (v B 100448))
    (.ret [a (.nil true I)])
    (.guard (le (c 0) (ln (v (L T4) 0)))
     (.guard (le (ln (v (L T4) 0)) (c 549755813888))
      (.loop [a (v I 1), a (v (L T4) 0), a (ln (v (L T4) 0)), a (c 0), a (rep (c 0) (z I))]
       (.ite (lt (v I 3) (v I 2))
        (.guard (le (c 0) (v I 3))
         (.guard (lt (v I 3) (ln (v (L T4) 1)))
          (.call f_impl_parts [a (f (ix (v (L T4) 1) (v I 3)))] 582
           (.call f_impl_in [a (f (ix (v (L T4) 1) (v I 3))), a (c 0), a (c 9)] 1222
            (.join
             (.ite (eq (f (ix (v (L T4) 1) (v I 3))) (c 0))
              (.call f_impl_in [a (f (s (ix (v (L T4) 1) (v I 3)))), a (c (-9999)), a (c 9999)] 1734
               (.ite (v B 1734)
                (.ite (eq (f (s (s (ix (v (L T4) 1) (v I 3))))) (c 0))
                 (.jump 0 [a (v I 0), a (v I 584), a (eq (s (s (s (ix (v (L T4) 1) (v I 3))))) (c 0)), a (v (L T4) 1), a (v I 2), a (v I 3), a (v (L I) 4)])
                 (.jump 0 [a (v I 0), a (v I 584), a (k false), a (v (L T4) 1), a (v I 2), a (v I 3), a (v (L I) 4)]))
                (.jump 0 [a (v I 0), a (v I 584), a (k false), a (v (L T4) 1), a (v I 2), a (v I 3), a (v (L I) 4)])))
              (.ite (eq (f (ix (v (L T4) 1) (v I 3))) (c 1))
               (.call f_impl_in [a (f (s (ix (v (L T4) 1) (v I 3)))), a (c 0), a (sub (v I 0) (c 1))] 2118
                (.ite (v B 2118)
                 (.ite (eq (f (s (s (ix (v (L T4) 1) (v I 3))))) (c 0))
                  (.jump 0 [a (v I 0), a (v I 584), a (eq (s (s (s (ix (v (L T4) 1) (v I 3))))) (c 0)), a (v (L T4) 1), a (v I 2), a (v I 3), a (v (L I) 4)])
                  (.jump 0 [a (v I 0), a (v I 584), a (k false), a (v (L T4) 1), a (v I 2), a (v I 3), a (v (L I) 4)]))
                 (.jump 0 [a (v I 0), a (v I 584), a (k false), a (v (L T4) 1), a (v I 2), a (v I 3), a (v (L I) 4)])))
               (.ite (v B 1222)
                (.ite (eq (f (s (ix (v (L T4) 1) (v I 3)))) (c 0))
                 (.call f_impl_in [a (f (s (s (ix (v (L T4) 1) (v I 3))))), a (c 0), a (sub (v I 3) (c 1))] 2502
                  (.ite (v B 2502)
                   (.call f_impl_in [a (s (s (s (ix (v (L T4) 1) (v I 3))))), a (c 0), a (sub (v I 3) (c 1))] 2950
                    (.ite (v B 2950)
                     (.guard (le (c 0) (f (s (s (ix (v (L T4) 1) (v I 3))))))
                      (.guard (lt (f (s (s (ix (v (L T4) 1) (v I 3))))) (ln (v (L I) 4)))
                       (.ite (eq (ix (v (L I) 4) (f (s (s (ix (v (L T4) 1) (v I 3)))))) (v I 583))
                        (.guard (le (c 0) (s (s (s (ix (v (L T4) 1) (v I 3))))))
                         (.guard (lt (s (s (s (ix (v (L T4) 1) (v I 3))))) (ln (v (L I) 4)))
                          (.ite (eq (ix (v (L I) 4) (s (s (s (ix (v (L T4) 1) (v I 3)))))) (v I 583))
                           (.ite (eq (v I 582) (c 2))
                            (.jump 0 [a (v I 0), a (v I 584), a (k true), a (v (L T4) 1), a (v I 2), a (v I 3), a (v (L I) 4)])
                            (.jump 0 [a (v I 0), a (v I 584), a (eq (f (s (s (ix (v (L T4) 1) (v I 3))))) (s (s (s (ix (v (L T4) 1) (v I 3)))))), a (v (L T4) 1), a (v I 2), a (v I 3), a (v (L I) 4)]))
                           (.jump 0 [a (v I 0), a (v I 584), a (k false), a (v (L T4) 1), a (v I 2), a (v I 3), a (v (L I) 4)]))))
                        (.jump 0 [a (v I 0), a (v I 584), a (k false), a (v (L T4) 1), a (v I 2), a (v I 3), a (v (L I) 4)]))))
                     (.jump 0 [a (v I 0), a (v I 584), a (k false), a (v (L T4) 1), a (v I 2), a (v I 3), a (v (L I) 4)])))
                   (.jump 0 [a (v I 0), a (v I 584), a (k false), a (v (L T4) 1), a (v I 2), a (v I 3), a (v (L I) 4)])))
                 (.jump 0 [a (v I 0), a (v I 584), a (k false), a (v (L T4) 1), a (v I 2), a (v I 3), a (v (L I) 4)]))
                (.jump 0 [a (v I 0), a (v I 584), a (k false), a (v (L T4) 1), a (v I 2), a (v I 3), a (v (L I) 4)]))))
             (.ite (nt (v B 2))
              (.ret [a (.nil true I)])
              (.guard (le (ln (v (L I) 6)) (c 549755813888))
               (.guard (le (ln (one (v I 1))) (c 549755813888))
                (.jump 0 [a (v I 0), a (v (L T4) 3), a (v I 4), a (add (v I 5) (c 1)), a (app (v (L I) 6) (one (v I 1)))])))))))))
        (.guard (nt (emp (v (L I) 4)))
         (.ret [a (re true (v (L I) 4))])))))))))
def tr_impl_kindOf : Tr := .call f_impl_kindsOf [a (v (L T4) 0), a (v I 1)] 100192
 (.ite (emp (v (N I) 100192))
  (.ret [a (c 0)])
  (.guard (le (c 0) (sub (lm (v (N I) 100192)) (c 1)))
   (.guard (lt (sub (lm (v (N I) 100192)) (c 1)) (lm (v (N I) 100192)))
    (.ret [a (im (v (N I) 100192) (sub (lm (v (N I) 100192)) (c 1)))]))))
def tr_impl_ruleOk : Tr := .call f_impl_kindOf [a (v (L T4) 0), a (v I 3)] 100320
 (.ite (ne (v I 100320) (c 2))
  (.ret [a (k false)])
  (.ite (ne (ln (v (L I) 1)) (ln (v (L (L T4)) 2)))
   (.ret [a (k false)])
   (.loop [a (v I 3), a (v (L I) 1), a (ln (v (L I) 1)), a (c 0), a (v (L T4) 0), a (v (L I) 1), a (v (L (L T4)) 2)]
    (.ite (lt (v I 3) (v I 2))
     (.join
      (.guard (le (c 0) (v I 3))
       (.guard (lt (v I 3) (ln (v (L I) 1)))
        (.call f_impl_in [a (ix (v (L I) 1) (v I 3)), a (c 0), a (sub (v I 0) (c 1))] 584
         (.ite (nt (v B 584))
          (.ret [a (k false)])
          (.ite (gt (v I 3) (c 0))
           (.guard (le (c 0) (sub (v I 3) (c 1)))
            (.guard (lt (sub (v I 3) (c 1)) (ln (v (L I) 5)))
             (.ite (ge (ix (v (L I) 5) (sub (v I 3) (c 1))) (ix (v (L I) 1) (v I 3)))
              (.ret [a (k false)])
              (.guard (le (c 0) (v I 3))
               (.guard (lt (v I 3) (ln (v (L (L T4)) 6)))
                (.call f_impl_kindOf [a (ix (v (L (L T4)) 6) (v I 3)), a (v I 0)] 2056
                 (.ite (ne (v I 2056) (c 1))
                  (.ret [a (k false)])
                  (.jump 0 [a (v I 0), a (v (L I) 1), a (v I 2), a (v I 3), a (v (L T4) 4), a (v (L I) 5), a (v (L (L T4)) 6)]))))))))
           (.guard (le (c 0) (v I 3))
            (.guard (lt (v I 3) (ln (v (L (L T4)) 6)))
             (.call f_impl_kindOf [a (ix (v (L (L T4)) 6) (v I 3)), a (v I 0)] 2056
              (.ite (ne (v I 2056) (c 1))
               (.ret [a (k false)])
               (.jump 0 [a (v I 0), a (v (L I) 1), a (v I 2), a (v I 3), a (v (L T4) 4), a (v (L I) 5), a (v (L (L T4)) 6)]))))))))))
      (.jump 0 [a (v I 0), a (v (L I) 1), a (v I 2), a (add (v I 3) (c 1)), a (v (L T4) 4), a (v (L I) 5), a (v (L (L T4)) 6)]))
     (.ret [a (k true)])))))
def tr_impl_SystemValid : Tr := .join
 (.call f_impl_in [a (ln (v (L V3) 0)), a (c 1), a (c 5)] 100320
  (.ite (nt (v B 100320))
   (.ret [a (k false)])
   (.ite (gt (ln (v (L TR) 1)) (c 8))
    (.ret [a (k false)])
    (.loop [a (v (L V3) 0), a (ln (v (L V3) 0)), a (c 0), a (v (L V3) 0), a (v (L TR) 1)]
     (.ite (lt (v I 2) (v I 1))
      (.guard (le (c 0) (v I 2))
       (.guard (lt (v I 2) (ln (v (L V3) 0)))
        (.call f_impl_varOk [a (f (ix (v (L V3) 0) (v I 2))), a (f (s (ix (v (L V3) 0) (v I 2)))), a (s (s (ix (v (L V3) 0) (v I 2))))] 774
         (.ite (nt (v B 774))
          (.ite (ge (v I 2) (c 0))
           (.ret [a (k false)])
           (.call f_impl_size [a (v (L V3) 3)] 3014
            (.ite (gt (v I 3014) (c 400))
             (.ret [a (k false)])
             (.jump 1 [a (v (L V3) 3), a (v (L TR) 4)]))))
          (.jump 0 [a (v (L V3) 0), a (v I 1), a (add (v I 2) (c 1)), a (v (L V3) 3), a (v (L TR) 4)])))))
      (.call f_impl_size [a (v (L V3) 3)] 1670
       (.ite (gt (v I 1670) (c 400))
        (.ret [a (k false)])
        (.jump 1 [a (v (L V3) 3), a (v (L TR) 4)]))))))))
 (.loop [a (v (L TR) 1), a (ln (v (L TR) 1)), a (c 0), a (v (L V3) 0), a (v (L TR) 1)]
  (.ite (lt (v I 2) (v I 1))
   (.guard (le (c 0) (v I 2))
    (.guard (lt (v I 2) (ln (v (L TR) 0)))
     (.call f_impl_ruleOk [a (f (ix (v (L TR) 0) (v I 2))), a (f (s (ix (v (L TR) 0) (v I 2)))), a (s (s (ix (v (L TR) 0) (v I 2)))), a (ln (v (L V3) 3))] 966
      (.ite (nt (v B 966))
       (.ret [a (nt (ge (v I 2) (c 0)))])
       (.jump 0 [a (v (L TR) 0), a (v I 1), a (add (v I 2) (c 1)), a (v (L V3) 3), a (v (L TR) 4)])))))
   (.ret [a (nt (ge (c (-1)) (c 0)))])))
def tr_slices_Index_Sint_int : Tr := .loop [a (v (L I) 0), a (v I 1), a (ln (v (L I) 0)), a (c 0)]
 (.ite (lt (v I 3) (v I 2))
  (.guard (le (c 0) (v I 3))
   (.guard (lt (v I 3) (ln (v (L I) 0)))
    (.ite (eq (v I 1) (ix (v (L I) 0) (v I 3)))
     (.ret [a (v I 3)])
     (.jump 0 [a (v (L I) 0), a (v I 1), a (v I 2), a (add (v I 3) (c 1))]))))
  (.ret [a (c (-1))]))
def tr_slices_Contains_Sint_int : Tr := .call f_slices_Index_Sint_int [a (v (L I) 0), a (v I 1)] 100192
 (.ret [a (ge (v I 100192) (c 0))])
def tr_impl_meets : Tr := .loop [a (v (L I) 0), a (ln (v (L I) 0)), a (c 0), a (v (L I) 1)]
 (.ite (lt (v I 2) (v I 1))
  (.guard (le (c 0) (v I 2))
   (.guard (lt (v I 2) (ln (v (L I) 0)))
    (.call f_slices_Contains_Sint_int [a (v (L I) 3), a (ix (v (L I) 0) (v I 2))] 773
     (.ite (v B 773)
      (.ret [a (ge (v I 2) (c 0))])
      (.jump 0 [a (v (L I) 0), a (v I 1), a (add (v I 2) (c 1)), a (v (L I) 3)])))))
  (.ret [a (ge (c (-1)) (c 0))]))
def tr_impl_clone_int : Tr := .ite (eq (ln (v (L I) 0)) (c 0))
 (.ret [a (nl I)])
 (.guard (le (c 0) (ln (v (L I) 0)))
  (.guard (le (ln (v (L I) 0)) (c 549755813888))
   (.ret [a (over (rep (ln (v (L I) 0)) (z I)) (v (L I) 0))])))
def tr_impl_usedBy : Tr := .guard (le (c 0) (ln (v (L T4) 0)))
 (.guard (le (ln (v (L T4) 0)) (c 549755813888))
  (.guard (le (c 0) (v I 1))
   (.guard (le (v I 1) (c 549755813888))
    (.guard (le (c 0) (sub (ln (v (L T4) 0)) (c 1)))
     (.guard (lt (sub (ln (v (L T4) 0)) (c 1)) (ln (rep (ln (v (L T4) 0)) (z B))))
      (.loop [a (v (L T4) 0), a (sub (ln (v (L T4) 0)) (c 1)), a (st (rep (ln (v (L T4) 0)) (z B)) (sub (ln (v (L T4) 0)) (c 1)) (k true)), a (rep (v I 1) (z B))]
       (.ite (ge (v I 1) (c 0))
        (.join
         (.guard (le (c 0) (v I 1))
          (.guard (lt (v I 1) (ln (v (L T4) 0)))
           (.guard (le (c 0) (v I 1))
            (.guard (lt (v I 1) (ln (v (L B) 2)))
             (.ite (nt (ix (v (L B) 2) (v I 1)))
              (.jump 0 [a (v (L T4) 0), a (v I 1), a (v (L B) 2), a (v (L B) 3)])
              (.ite (eq (f (ix (v (L T4) 0) (v I 1))) (c 0))
               (.jump 0 [a (v (L T4) 0), a (v I 1), a (v (L B) 2), a (v (L B) 3)])
               (.ite (eq (f (ix (v (L T4) 0) (v I 1))) (c 1))
                (.guard (le (c 0) (f (s (ix (v (L T4) 0) (v I 1)))))
                 (.guard (lt (f (s (ix (v (L T4) 0) (v I 1)))) (ln (v (L B) 3)))
                  (.jump 0 [a (v (L T4) 0), a (v I 1), a (v (L B) 2), a (st (v (L B) 3) (f (s (ix (v (L T4) 0) (v I 1)))) (k true))])))
                (.guard (le (c 0) (f (s (s (ix (v (L T4) 0) (v I 1))))))
                 (.guard (lt (f (s (s (ix (v (L T4) 0) (v I 1))))) (ln (v (L B) 2)))
                  (.guard (le (c 0) (s (s (s (ix (v (L T4) 0) (v I 1))))))
                   (.guard (lt (s (s (s (ix (v (L T4) 0) (v I 1))))) (ln (st (v (L B) 2) (f (s (s (ix (v (L T4) 0) (v I 1))))) (k true))))
                    (.join
                     (.jump 0 [a (v (L T4) 0), a (v I 1), a (st (st (v (L B) 2) (f (s (s (ix (v (L T4) 0) (v I 1))))) (k true)) (s (s (s (ix (v (L T4) 0) (v I 1))))) (k true)), a (v (L B) 3)])
                     (.jump 0 [a (v (L T4) 0), a (v I 1), a (v (L B) 2), a (v (L B) 3)])))))))))))))
         (.jump 0 [a (v (L T4) 0), a (sub (v I 1) (c 1)), a (v (L B) 2), a (v (L B) 3)]))
        (.loop [a (ln (v (L B) 3)), a (c 0), a (nl I), a (v (L B) 3)]
         (.ite (lt (v I 1) (v I 0))
          (.join
           (.guard (le (c 0) (v I 1))
            (.guard (lt (v I 1) (ln (v (L B) 3)))
             (.ite (ix (v (L B) 3) (v I 1))
              (.guard (le (ln (v (L I) 2)) (c 549755813888))
               (.guard (le (ln (one (v I 1))) (c 549755813888))
                (.jump 0 [a (v I 0), a (v I 1), a (app (v (L I) 2) (one (v I 1))), a (v (L B) 3)])))
              (.jump 0 [a (v I 0), a (v I 1), a (v (L I) 2), a (v (L B) 3)]))))
           (.jump 0 [a (v I 0), a (add (v I 1) (c 1)), a (v (L I) 2), a (v (L B) 3)]))
          (.call f_impl_clone_int [a (v (L I) 2)] 134
           (.ret [a (v (L I) 134)])))))))))))
def tr_math_bits_Len32 : Tr := .join
 (.ite (cm .geq (v (.int .u32) 0) (.int .u32 65536))
  (.jump 0 [a (.o2 (.sh false .u32 .u64) (v (.int .u32) 0) (.int .u64 16)), a (c 16)])
  (.jump 0 [a (v (.int .u32) 0), a (c 0)]))
 (.join
  (.ite (cm .geq (v (.int .u32) 0) (.int .u32 256))
   (.jump 0 [a (.o2 (.sh false .u32 .u64) (v (.int .u32) 0) (.int .u64 8)), a (add (v I 1) (c 8))])
   (.jump 0 [a (v (.int .u32) 0), a (v I 1)]))
  (.guard (cm .leq (.int .u8 0) (.o1 (.conv .u32 .u8) (v (.int .u32) 0)))
   (.guard (cm .lss (.o1 (.conv .u32 .u8) (v (.int .u32) 0)) (.o1 .slen (.str (ByteArray.mk #[0, 1, 2, 2, 3, 3, 3, 3, 4, 4, 4, 4, 4, 4, 4, 4, 5, 5, 5, 5, 5, 5, 5, 5, 5, 5, 5, 5, 5, 5, 5, 5, 6, 6, 6, 6, 6, 6, 6, 6, 6, 6, 6, 6, 6, 6, 6, 6, 6, 6, 6, 6, 6, 6, 6, 6, 6, 6, 6, 6, 6, 6, 6, 6, 7, 7, 7, 7, 7, 7, 7, 7, 7, 7, 7, 7, 7, 7, 7, 7, 7, 7, 7, 7, 7, 7, 7, 7, 7, 7, 7, 7, 7, 7, 7, 7, 7, 7, 7, 7, 7, 7, 7, 7, 7, 7, 7, 7, 7, 7, 7, 7, 7, 7, 7, 7, 7, 7, 7, 7, 7, 7, 7, 7, 7, 7, 7, 7, 8, 8, 8, 8, 8, 8, 8, 8, 8, 8, 8, 8, 8, 8, 8, 8, 8, 8, 8, 8, 8, 8, 8, 8, 8, 8, 8, 8, 8, 8, 8, 8, 8, 8, 8, 8, 8, 8, 8, 8, 8, 8, 8, 8, 8, 8, 8, 8, 8, 8, 8, 8, 8, 8, 8, 8, 8, 8, 8, 8, 8, 8, 8, 8, 8, 8, 8, 8, 8, 8, 8, 8, 8, 8, 8, 8, 8, 8, 8, 8, 8, 8, 8, 8, 8, 8, 8, 8, 8, 8, 8, 8, 8, 8, 8, 8, 8, 8, 8, 8, 8, 8, 8, 8, 8, 8, 8, 8, 8, 8, 8, 8, 8, 8, 8, 8, 8, 8, 8, 8, 8, 8, 8, 8, 8, 8, 8, 8]))))
    (.ret [a (add (v I 1) (.o1 (.conv .u8 .i64) (.o2 (.sidx .u8) (.str (ByteArray.mk #[0, 1, 2, 2, 3, 3, 3, 3, 4, 4, 4, 4, 4, 4, 4, 4, 5, 5, 5, 5, 5, 5, 5, 5, 5, 5, 5, 5, 5, 5, 5, 5, 6, 6, 6, 6, 6, 6, 6, 6, 6, 6, 6, 6, 6, 6, 6, 6, 6, 6, 6, 6, 6, 6, 6, 6, 6, 6, 6, 6, 6, 6, 6, 6, 7, 7, 7, 7, 7, 7, 7, 7, 7, 7, 7, 7, 7, 7, 7, 7, 7, 7, 7, 7, 7, 7, 7, 7, 7, 7, 7, 7, 7, 7, 7, 7, 7, 7, 7, 7, 7, 7, 7, 7, 7, 7, 7, 7, 7, 7, 7, 7, 7, 7, 7, 7, 7, 7, 7, 7, 7, 7, 7, 7, 7, 7, 7, 7, 8, 8, 8, 8, 8, 8, 8, 8, 8, 8, 8, 8, 8, 8, 8, 8, 8, 8, 8, 8, 8, 8, 8, 8, 8, 8, 8, 8, 8, 8, 8, 8, 8, 8, 8, 8, 8, 8, 8, 8, 8, 8, 8, 8, 8, 8, 8, 8, 8, 8, 8, 8, 8, 8, 8, 8, 8, 8, 8, 8, 8, 8, 8, 8, 8, 8, 8, 8, 8, 8, 8, 8, 8, 8, 8, 8, 8, 8, 8, 8, 8, 8, 8, 8, 8, 8, 8, 8, 8, 8, 8, 8, 8, 8, 8, 8, 8, 8, 8, 8, 8, 8, 8, 8, 8, 8, 8, 8, 8, 8, 8, 8, 8, 8, 8, 8, 8, 8, 8, 8, 8, 8, 8, 8, 8, 8, 8, 8])) (.o1 (.conv .u32 .u8) (v (.int .u32) 0)))))]))))
def tr_math_bits_Len64 : Tr := .join
 (.ite (cm .geq (v (.int .u64) 0) (.int .u64 4294967296))
  (.jump 0 [a (.o2 (.sh false .u64 .u64) (v (.int .u64) 0) (.int .u64 32)), a (c 32)])
  (.jump 0 [a (v (.int .u64) 0), a (c 0)]))
 (.join
  (.ite (cm .geq (v (.int .u64) 0) (.int .u64 65536))
   (.jump 0 [a (.o2 (.sh false .u64 .u64) (v (.int .u64) 0) (.int .u64 16)), a (add (v I 1) (c 16))])
   (.jump 0 [a (v (.int .u64) 0), a (v I 1)]))
  (.join
   (.ite (cm .geq (v (.int .u64) 0) (.int .u64 256))
    (.jump 0 [a (.o2 (.sh false .u64 .u64) (v (.int .u64) 0) (.int .u64 8)), a (add (v I 1) (c 8))])
    (.jump 0 [a (v (.int .u64) 0), a (v I 1)]))
   (.guard (cm .leq (.int .u8 0) (.o1 (.conv .u64 .u8) (v (.int .u64) 0)))
    (.guard (cm .lss (.o1 (.conv .u64 .u8) (v (.int .u64) 0)) (.o1 .slen (.str (ByteArray.mk #[0, 1, 2, 2, 3, 3, 3, 3, 4, 4, 4, 4, 4, 4, 4, 4, 5, 5, 5, 5, 5, 5, 5, 5, 5, 5, 5, 5, 5, 5, 5, 5, 6, 6, 6, 6, 6, 6, 6, 6, 6, 6, 6, 6, 6, 6, 6, 6, 6, 6, 6, 6, 6, 6, 6, 6, 6, 6, 6, 6, 6, 6, 6, 6, 7, 7, 7, 7, 7, 7, 7, 7, 7, 7, 7, 7, 7, 7, 7, 7, 7, 7, 7, 7, 7, 7, 7, 7, 7, 7, 7, 7, 7, 7, 7, 7, 7, 7, 7, 7, 7, 7, 7, 7, 7, 7, 7, 7, 7, 7, 7, 7, 7, 7, 7, 7, 7, 7, 7, 7, 7, 7, 7, 7, 7, 7, 7, 7, 8, 8, 8, 8, 8, 8, 8, 8, 8, 8, 8, 8, 8, 8, 8, 8, 8, 8, 8, 8, 8, 8, 8, 8, 8, 8, 8, 8, 8, 8, 8, 8, 8, 8, 8, 8, 8, 8, 8, 8, 8, 8, 8, 8, 8, 8, 8, 8, 8, 8, 8, 8, 8, 8, 8, 8, 8, 8, 8, 8, 8, 8, 8, 8, 8, 8, 8, 8, 8, 8, 8, 8, 8, 8, 8, 8, 8, 8, 8, 8, 8, 8, 8, 8, 8, 8, 8, 8, 8, 8, 8, 8, 8, 8, 8, 8, 8, 8, 8, 8, 8, 8, 8, 8, 8, 8, 8, 8, 8, 8, 8, 8, 8, 8, 8, 8, 8, 8, 8, 8, 8, 8, 8, 8, 8, 8, 8, 8]))))
     (.ret [a (add (v I 1) (.o1 (.conv .u8 .i64) (.o2 (.sidx .u8) (.str (ByteArray.mk #[0, 1, 2, 2, 3, 3, 3, 3, 4, 4, 4, 4, 4, 4, 4, 4, 5, 5, 5, 5, 5, 5, 5, 5, 5, 5, 5, 5, 5, 5, 5, 5, 6, 6, 6, 6, 6, 6, 6, 6, 6, 6, 6, 6, 6, 6, 6, 6, 6, 6, 6, 6, 6, 6, 6, 6, 6, 6, 6, 6, 6, 6, 6, 6, 7, 7, 7, 7, 7, 7, 7, 7, 7, 7, 7, 7, 7, 7, 7, 7, 7, 7, 7, 7, 7, 7, 7, 7, 7, 7, 7, 7, 7, 7, 7, 7, 7, 7, 7, 7, 7, 7, 7, 7, 7, 7, 7, 7, 7, 7, 7, 7, 7, 7, 7, 7, 7, 7, 7, 7, 7, 7, 7, 7, 7, 7, 7, 7, 8, 8, 8, 8, 8, 8, 8, 8, 8, 8, 8, 8, 8, 8, 8, 8, 8, 8, 8, 8, 8, 8, 8, 8, 8, 8, 8, 8, 8, 8, 8, 8, 8, 8, 8, 8, 8, 8, 8, 8, 8, 8, 8, 8, 8, 8, 8, 8, 8, 8, 8, 8, 8, 8, 8, 8, 8, 8, 8, 8, 8, 8, 8, 8, 8, 8, 8, 8, 8, 8, 8, 8, 8, 8, 8, 8, 8, 8, 8, 8, 8, 8, 8, 8, 8, 8, 8, 8, 8, 8, 8, 8, 8, 8, 8, 8, 8, 8, 8, 8, 8, 8, 8, 8, 8, 8, 8, 8, 8, 8, 8, 8, 8, 8, 8, 8, 8, 8, 8, 8, 8, 8, 8, 8, 8, 8, 8, 8])) (.o1 (.conv .u64 .u8) (v (.int .u64) 0)))))])))))
def tr_math_bits_Len : Tr := .call f_math_bits_Len64 [a (v (.int .u64) 0)] 100128
 (.ret [a (v I 100128)])
def tr_cmp_isNaN_int : Tr := .ret [a (ne (v I 0) (v I 0))]
def tr_cmp_Less_int : Tr := .call f_cmp_isNaN_int [a (v I 0)] 100128
 (.ite (v B 100128)
  (.call f_cmp_isNaN_int [a (v I 1)] 100320
   (.ite (nt (v B 100320))
    (.ret [a (k true)])
    (.ret [a (lt (v I 0) (v I 1))])))
  (.ret [a (lt (v I 0) (v I 1))]))
def tr_slices_insertionSortOrdered_int : Tr := .loop [a (v I 1), a (v I 2), a (add (v I 1) (c 1)), a (v (L I) 0)]
 (.ite (lt (v I 2) (v I 1))
  (.join
   (.loop [a (v I 0), a (v I 1), a (v I 2), a (v I 2), a (v (L I) 3)]
    (.ite (gt (v I 3) (v I 0))
     (.guard (le (c 0) (v I 3))
      (.guard (lt (v I 3) (ln (v (L I) 4)))
       (.guard (le (c 0) (sub (v I 3) (c 1)))
        (.guard (lt (sub (v I 3) (c 1)) (ln (v (L I) 4)))
         (.call f_cmp_Less_int [a (ix (v (L I) 4) (v I 3)), a (ix (v (L I) 4) (sub (v I 3) (c 1)))] 838
          (.ite (v B 838)
           (.guard (le (c 0) (sub (v I 3) (c 1)))
            (.guard (lt (sub (v I 3) (c 1)) (ln (v (L I) 4)))
             (.guard (le (c 0) (v I 3))
              (.guard (lt (v I 3) (ln (v (L I) 4)))
               (.guard (le (c 0) (v I 3))
                (.guard (lt (v I 3) (ln (v (L I) 4)))
                 (.guard (le (c 0) (sub (v I 3) (c 1)))
                  (.guard (lt (sub (v I 3) (c 1)) (ln (st (v (L I) 4) (v I 3) (ix (v (L I) 4) (sub (v I 3) (c 1))))))
                   (.jump 0 [a (v I 0), a (v I 1), a (v I 2), a (sub (v I 3) (c 1)), a (st (st (v (L I) 4) (v I 3) (ix (v (L I) 4) (sub (v I 3) (c 1)))) (sub (v I 3) (c 1)) (ix (v (L I) 4) (v I 3)))])))))))))
           (.jump 1 [a (v I 0), a (v I 1), a (v I 2), a (v (L I) 4)])))))))
     (.jump 1 [a (v I 0), a (v I 1), a (v I 2), a (v (L I) 4)])))
   (.jump 0 [a (v I 0), a (v I 1), a (add (v I 2) (c 1)), a (v (L I) 3)]))
  (.ret [a (v (L I) 3)]))
def tr_slices_siftDownOrdered_int : Tr := .loop [a (v I 2), a (v I 3), a (v I 1), a (v (L I) 0)]
 (.ite (ge (add (mul (c 2) (v I 2)) (c 1)) (v I 0))
  (.ret [a (v (L I) 3)])
  (.join
   (.ite (lt (add (add (mul (c 2) (v I 2)) (c 1)) (c 1)) (v I 0))
    (.guard (le (c 0) (add (v I 1) (add (mul (c 2) (v I 2)) (c 1))))
     (.guard (lt (add (v I 1) (add (mul (c 2) (v I 2)) (c 1))) (ln (v (L I) 3)))
      (.guard (le (c 0) (add (add (v I 1) (add (mul (c 2) (v I 2)) (c 1))) (c 1)))
       (.guard (lt (add (add (v I 1) (add (mul (c 2) (v I 2)) (c 1))) (c 1)) (ln (v (L I) 3)))
        (.call f_cmp_Less_int [a (ix (v (L I) 3) (add (v I 1) (add (mul (c 2) (v I 2)) (c 1)))), a (ix (v (L I) 3) (add (add (v I 1) (add (mul (c 2) (v I 2)) (c 1))) (c 1)))] 1605
         (.ite (v B 1605)
          (.jump 0 [a (v I 0), a (v I 1), a (v I 2), a (add (add (mul (c 2) (v I 2)) (c 1)) (c 1)), a (v (L I) 3)])
          (.jump 0 [a (v I 0), a (v I 1), a (v I 2), a (add (mul (c 2) (v I 2)) (c 1)), a (v (L I) 3)])))))))
    (.jump 0 [a (v I 0), a (v I 1), a (v I 2), a (add (mul (c 2) (v I 2)) (c 1)), a (v (L I) 3)]))
   (.guard (le (c 0) (add (v I 1) (v I 2)))
    (.guard (lt (add (v I 1) (v I 2)) (ln (v (L I) 4)))
     (.guard (le (c 0) (add (v I 1) (v I 3)))
      (.guard (lt (add (v I 1) (v I 3)) (ln (v (L I) 4)))
       (.call f_cmp_Less_int [a (ix (v (L I) 4) (add (v I 1) (v I 2))), a (ix (v (L I) 4) (add (v I 1) (v I 3)))] 774
        (.ite (nt (v B 774))
         (.ret [a (v (L I) 4)])
         (.guard (le (c 0) (add (v I 1) (v I 3)))
          (.guard (lt (add (v I 1) (v I 3)) (ln (v (L I) 4)))
           (.guard (le (c 0) (add (v I 1) (v I 2)))
            (.guard (lt (add (v I 1) (v I 2)) (ln (v (L I) 4)))
             (.guard (le (c 0) (add (v I 1) (v I 2)))
              (.guard (lt (add (v I 1) (v I 2)) (ln (v (L I) 4)))
               (.guard (le (c 0) (add (v I 1) (v I 3)))
                (.guard (lt (add (v I 1) (v I 3)) (ln (st (v (L I) 4) (add (v I 1) (v I 2)) (ix (v (L I) 4) (add (v I 1) (v I 3))))))
                 (.jump 0 [a (v I 0), a (v I 1), a (v I 3), a (st (st (v (L I) 4) (add (v I 1) (v I 2)) (ix (v (L I) 4) (add (v I 1) (v I 3)))) (add (v I 1) (v I 3)) (ix (v (L I) 4) (add (v I 1) (v I 2))))])))))))))))))))))
def tr_slices_heapSortOrdered_int : Tr := .loop [a (v I 1), a (c 0), a (sub (v I 2) (v I 1)), a (quo (sub (sub (v I 2) (v I 1)) (c 1)) (c 2)), a (v (L I) 0)]
 (.ite (ge (v I 3) (c 0))
  (.call f_slices_siftDownOrdered_int [a (v (L I) 4), a (v I 3), a (v I 2), a (v I 0)] 390
   (.jump 0 [a (v I 0), a (v I 1), a (v I 2), a (sub (v I 3) (c 1)), a (v (L I) 390)]))
  (.loop [a (v I 0), a (v I 1), a (sub (v I 2) (c 1)), a (v (L I) 4)]
   (.ite (ge (v I 2) (c 0))
    (.guard (le (c 0) (add (v I 0) (v I 2)))
     (.guard (lt (add (v I 0) (v I 2)) (ln (v (L I) 3)))
      (.guard (le (c 0) (v I 0))
       (.guard (lt (v I 0) (ln (v (L I) 3)))
        (.guard (le (c 0) (v I 0))
         (.guard (lt (v I 0) (ln (v (L I) 3)))
          (.guard (le (c 0) (add (v I 0) (v I 2)))
           (.guard (lt (add (v I 0) (v I 2)) (ln (st (v (L I) 3) (v I 0) (ix (v (L I) 3) (add (v I 0) (v I 2))))))
            (.call f_slices_siftDownOrdered_int [a (st (st (v (L I) 3) (v I 0) (ix (v (L I) 3) (add (v I 0) (v I 2)))) (add (v I 0) (v I 2)) (ix (v (L I) 3) (v I 0))), a (v I 1), a (v I 2), a (v I 0)] 1669
             (.jump 0 [a (v I 0), a (v I 1), a (sub (v I 2) (c 1)), a (v (L I) 1669)]))))))))))
    (.ret [a (v (L I) 3)]))))
def tr_slices_nextPowerOfTwo : Tr := .call f_math_bits_Len [a (.o1 (.conv .i64 .u64) (v I 0))] 100192
 (.guard (le (c 0) (v I 100192))
  (.ret [a (.o2 (.sh true .u64 .i64) (.int .u64 1) (v I 100192))]))
def tr_slices_xorshift_Next : Tr := .ret [a (ar .xor (ar .xor (ar .xor (v (.int .u64) 0) (.o2 (.sh true .u64 .u64) (v (.int .u64) 0) (.int .u64 13))) (.o2 (.sh false .u64 .u64) (ar .xor (v (.int .u64) 0) (.o2 (.sh true .u64 .u64) (v (.int .u64) 0) (.int .u64 13))) (.int .u64 7))) (.o2 (.sh true .u64 .u64) (ar .xor (ar .xor (v (.int .u64) 0) (.o2 (.sh true .u64 .u64) (v (.int .u64) 0) (.int .u64 13))) (.o2 (.sh false .u64 .u64) (ar .xor (v (.int .u64) 0) (.o2 (.sh true .u64 .u64) (v (.int .u64) 0) (.int .u64 13))) (.int .u64 7))) (.int .u64 17))), a (ar .xor (ar .xor (ar .xor (v (.int .u64) 0) (.o2 (.sh true .u64 .u64) (v (.int .u64) 0) (.int .u64 13))) (.o2 (.sh false .u64 .u64) (ar .xor (v (.int .u64) 0) (.o2 (.sh true .u64 .u64) (v (.int .u64) 0) (.int .u64 13))) (.int .u64 7))) (.o2 (.sh true .u64 .u64) (ar .xor (ar .xor (v (.int .u64) 0) (.o2 (.sh true .u64 .u64) (v (.int .u64) 0) (.int .u64 13))) (.o2 (.sh false .u64 .u64) (ar .xor (v (.int .u64) 0) (.o2 (.sh true .u64 .u64) (v (.int .u64) 0) (.int .u64 13))) (.int .u64 7))) (.int .u64 17)))]
def tr_slices_breakPatternsOrdered_int : Tr := .ite (ge (sub (v I 2) (v I 1)) (c 8))
 (.call f_slices_nextPowerOfTwo [a (sub (v I 2) (v I 1))] 100704
  (.loop [a (v I 1), a (sub (v I 2) (v I 1)), a (v (.int .u64) 100704), a (sub (add (v I 1) (mul (quo (sub (v I 2) (v I 1)) (c 4)) (c 2))) (c 1)), a (v (L I) 0), a (.o1 (.conv .i64 .u64) (sub (v I 2) (v I 1)))]
   (.ite (le (v I 3) (add (add (v I 0) (mul (quo (v I 1) (c 4)) (c 2))) (c 1)))
    (.call f_slices_xorshift_Next [a (v (.int .u64) 5)] 520
     (.join
      (.ite (ge (.o1 (.conv .u64 .i64) (ar .and (v (.int .u64) 520) (ar .sub (v (.int .u64) 2) (.int .u64 1)))) (v I 1))
       (.jump 0 [a (v I 0), a (v I 1), a (v (.int .u64) 2), a (v I 3), a (sub (.o1 (.conv .u64 .i64) (ar .and (v (.int .u64) 520) (ar .sub (v (.int .u64) 2) (.int .u64 1)))) (v I 1)), a (v (L I) 4), a (v (.int .u64) 521)])
       (.jump 0 [a (v I 0), a (v I 1), a (v (.int .u64) 2), a (v I 3), a (.o1 (.conv .u64 .i64) (ar .and (v (.int .u64) 520) (ar .sub (v (.int .u64) 2) (.int .u64 1)))), a (v (L I) 4), a (v (.int .u64) 521)]))
      (.guard (le (c 0) (add (v I 0) (v I 4)))
       (.guard (lt (add (v I 0) (v I 4)) (ln (v (L I) 5)))
        (.guard (le (c 0) (v I 3))
         (.guard (lt (v I 3) (ln (v (L I) 5)))
          (.guard (le (c 0) (v I 3))
           (.guard (lt (v I 3) (ln (v (L I) 5)))
            (.guard (le (c 0) (add (v I 0) (v I 4)))
             (.guard (lt (add (v I 0) (v I 4)) (ln (st (v (L I) 5) (v I 3) (ix (v (L I) 5) (add (v I 0) (v I 4))))))
              (.jump 0 [a (v I 0), a (v I 1), a (v (.int .u64) 2), a (add (v I 3) (c 1)), a (st (st (v (L I) 5) (v I 3) (ix (v (L I) 5) (add (v I 0) (v I 4)))) (add (v I 0) (v I 4)) (ix (v (L I) 5) (v I 3))), a (v (.int .u64) 6)])))))))))))
    (.ret [a (v (L I) 4)]))))
 (.ret [a (v (L I) 0)])
def tr_slices_order2Ordered_int : Tr := .guard (le (c 0) (v I 2))
 (.guard (lt (v I 2) (ln (v (L I) 0)))
  (.guard (le (c 0) (v I 1))
   (.guard (lt (v I 1) (ln (v (L I) 0)))
    (.call f_cmp_Less_int [a (ix (v (L I) 0) (v I 2)), a (ix (v (L I) 0) (v I 1))] 100640
     (.ite (v B 100640)
      (.ret [a (v I 2), a (v I 1), a (add (v I 3) (c 1))])
      (.ret [a (v I 1), a (v I 2), a (v I 3)]))))))
def tr_slices_medianOrdered_int : Tr := .call f_slices_order2Ordered_int [a (v (L I) 0), a (v I 1), a (v I 2), a (v I 4)] 100320
 (.call f_slices_order2Ordered_int [a (v (L I) 0), a (v I 100321), a (v I 3), a (v I 100322)] 100960
  (.call f_slices_order2Ordered_int [a (v (L I) 0), a (v I 100320), a (v I 100960), a (v I 100962)] 101600
   (.ret [a (v I 101601), a (v I 101602)])))
def tr_slices_medianAdjacentOrdered_int : Tr := .call f_slices_medianOrdered_int [a (v (L I) 0), a (sub (v I 1) (c 1)), a (v I 1), a (add (v I 1) (c 1)), a (v I 2)] 100512
 (.ret [a (v I 100512), a (v I 100513)])
def tr_slices_choosePivotOrdered_int : Tr := .join
 (.ite (ge (sub (v I 2) (v I 1)) (c 8))
  (.join
   (.ite (ge (sub (v I 2) (v I 1)) (c 50))
    (.call f_slices_medianAdjacentOrdered_int [a (v (L I) 0), a (add (v I 1) (mul (quo (sub (v I 2) (v I 1)) (c 4)) (c 1))), a (c 0)] 101984
     (.call f_slices_medianAdjacentOrdered_int [a (v (L I) 0), a (add (v I 1) (mul (quo (sub (v I 2) (v I 1)) (c 4)) (c 2))), a (v I 101985)] 102240
      (.call f_slices_medianAdjacentOrdered_int [a (v (L I) 0), a (add (v I 1) (mul (quo (sub (v I 2) (v I 1)) (c 4)) (c 3))), a (v I 102241)] 102496
       (.jump 0 [a (v (L I) 0), a (v I 101984), a (v I 102240), a (v I 102496), a (v I 102497)]))))
    (.jump 0 [a (v (L I) 0), a (add (v I 1) (mul (quo (sub (v I 2) (v I 1)) (c 4)) (c 1))), a (add (v I 1) (mul (quo (sub (v I 2) (v I 1)) (c 4)) (c 2))), a (add (v I 1) (mul (quo (sub (v I 2) (v I 1)) (c 4)) (c 3))), a (c 0)]))
   (.call f_slices_medianOrdered_int [a (v (L I) 0), a (v I 1), a (v I 2), a (v I 3), a (v I 4)] 262
    (.jump 0 [a (v I 262), a (v I 263)])))
  (.jump 0 [a (add (v I 1) (mul (quo (sub (v I 2) (v I 1)) (c 4)) (c 2))), a (c 0)]))
 (.ite (eq (v I 1) (c 0))
  (.ret [a (v I 0), a (c 1)])
  (.ite (eq (v I 1) (c 12))
   (.ret [a (v I 0), a (c 2)])
   (.ret [a (v I 0), a (c 0)])))
def tr_slices_reverseRangeOrdered_int : Tr := .loop [a (v I 1), a (sub (v I 2) (c 1)), a (v (L I) 0)]
 (.ite (lt (v I 0) (v I 1))
  (.guard (le (c 0) (v I 1))
   (.guard (lt (v I 1) (ln (v (L I) 2)))
    (.guard (le (c 0) (v I 0))
     (.guard (lt (v I 0) (ln (v (L I) 2)))
      (.guard (le (c 0) (v I 0))
       (.guard (lt (v I 0) (ln (v (L I) 2)))
        (.guard (le (c 0) (v I 1))
         (.guard (lt (v I 1) (ln (st (v (L I) 2) (v I 0) (ix (v (L I) 2) (v I 1)))))
          (.jump 0 [a (add (v I 0) (c 1)), a (sub (v I 1) (c 1)), a (st (st (v (L I) 2) (v I 0) (ix (v (L I) 2) (v I 1))) (v I 1) (ix (v (L I) 2) (v I 0)))])))))))))
  (.ret [a (v (L I) 2)]))
def tr_slices_partialInsertionSortOrdered_int : Tr := .loop [a (v I 1), a (v I 2), a (add (v I 1) (c 1)), a (c 0), a (v (L I) 0)]
 (.ite (lt (v I 3) (c 5))
  (.join
   (.join
    (.loop [a (v I 0), a (v I 1), a (v I 2), a (v I 3), a (v (L I) 4)]
     (.ite (lt (v I 2) (v I 1))
      (.guard (le (c 0) (v I 2))
       (.guard (lt (v I 2) (ln (v (L I) 4)))
        (.guard (le (c 0) (sub (v I 2) (c 1)))
         (.guard (lt (sub (v I 2) (c 1)) (ln (v (L I) 4)))
          (.call f_cmp_Less_int [a (ix (v (L I) 4) (v I 2)), a (ix (v (L I) 4) (sub (v I 2) (c 1)))] 838
           (.ite (nt (v B 838))
            (.jump 0 [a (v I 0), a (v I 1), a (add (v I 2) (c 1)), a (v I 3), a (v (L I) 4)])
            (.jump 1 [a (v I 0), a (v I 1), a (v I 2), a (v I 3), a (v (L I) 4)])))))))
      (.jump 1 [a (v I 0), a (v I 1), a (v I 2), a (v I 3), a (v (L I) 4)])))
    (.ite (eq (v I 2) (v I 1))
     (.ret [a (k true), a (v (L I) 4)])
     (.ite (lt (sub (v I 1) (v I 0)) (c 50))
      (.ret [a (k false), a (v (L I) 4)])
      (.guard (le (c 0) (sub (v I 2) (c 1)))
       (.guard (lt (sub (v I 2) (c 1)) (ln (v (L I) 4)))
        (.guard (le (c 0) (v I 2))
         (.guard (lt (v I 2) (ln (v (L I) 4)))
          (.guard (le (c 0) (v I 2))
           (.guard (lt (v I 2) (ln (v (L I) 4)))
            (.guard (le (c 0) (sub (v I 2) (c 1)))
             (.guard (lt (sub (v I 2) (c 1)) (ln (st (v (L I) 4) (v I 2) (ix (v (L I) 4) (sub (v I 2) (c 1))))))
              (.join
               (.ite (ge (sub (v I 2) (v I 0)) (c 2))
                (.loop [a (v I 0), a (v I 1), a (v I 2), a (v I 3), a (sub (v I 2) (c 1)), a (st (st (v (L I) 4) (v I 2) (ix (v (L I) 4) (sub (v I 2) (c 1)))) (sub (v I 2) (c 1)) (ix (v (L I) 4) (v I 2)))]
                 (.ite (ge (v I 4) (c 1))
                  (.guard (le (c 0) (v I 4))
                   (.guard (lt (v I 4) (ln (v (L I) 5)))
                    (.guard (le (c 0) (sub (v I 4) (c 1)))
                     (.guard (lt (sub (v I 4) (c 1)) (ln (v (L I) 5)))
                      (.call f_cmp_Less_int [a (ix (v (L I) 5) (v I 4)), a (ix (v (L I) 5) (sub (v I 4) (c 1)))] 711
                       (.ite (nt (v B 711))
                        (.jump 1 [a (v I 0), a (v I 1), a (v I 2), a (v I 3), a (v (L I) 5)])
                        (.guard (le (c 0) (sub (v I 4) (c 1)))
                         (.guard (lt (sub (v I 4) (c 1)) (ln (v (L I) 5)))
                          (.guard (le (c 0) (v I 4))
                           (.guard (lt (v I 4) (ln (v (L I) 5)))
                            (.guard (le (c 0) (v I 4))
                             (.guard (lt (v I 4) (ln (v (L I) 5)))
                              (.guard (le (c 0) (sub (v I 4) (c 1)))
                               (.guard (lt (sub (v I 4) (c 1)) (ln (st (v (L I) 5) (v I 4) (ix (v (L I) 5) (sub (v I 4) (c 1))))))
                                (.jump 0 [a (v I 0), a (v I 1), a (v I 2), a (v I 3), a (sub (v I 4) (c 1)), a (st (st (v (L I) 5) (v I 4) (ix (v (L I) 5) (sub (v I 4) (c 1)))) (sub (v I 4) (c 1)) (ix (v (L I) 5) (v I 4)))])))))))))))))))
                  (.jump 1 [a (v I 0), a (v I 1), a (v I 2), a (v I 3), a (v (L I) 5)])))
                (.jump 0 [a (v I 0), a (v I 1), a (v I 2), a (v I 3), a (st (st (v (L I) 4) (v I 2) (ix (v (L I) 4) (sub (v I 2) (c 1)))) (sub (v I 2) (c 1)) (ix (v (L I) 4) (v I 2)))]))
               (.ite (ge (sub (v I 1) (v I 2)) (c 2))
                (.loop [a (v I 0), a (v I 1), a (v I 2), a (v I 3), a (add (v I 2) (c 1)), a (v (L I) 4)]
                 (.ite (lt (v I 4) (v I 1))
                  (.guard (le (c 0) (v I 4))
                   (.guard (lt (v I 4) (ln (v (L I) 5)))
                    (.guard (le (c 0) (sub (v I 4) (c 1)))
                     (.guard (lt (sub (v I 4) (c 1)) (ln (v (L I) 5)))
                      (.call f_cmp_Less_int [a (ix (v (L I) 5) (v I 4)), a (ix (v (L I) 5) (sub (v I 4) (c 1)))] 775
                       (.ite (nt (v B 775))
                        (.jump 1 [a (v I 0), a (v I 1), a (v I 2), a (v I 3), a (v (L I) 5)])
                        (.guard (le (c 0) (sub (v I 4) (c 1)))
                         (.guard (lt (sub (v I 4) (c 1)) (ln (v (L I) 5)))
                          (.guard (le (c 0) (v I 4))
                           (.guard (lt (v I 4) (ln (v (L I) 5)))
                            (.guard (le (c 0) (v I 4))
                             (.guard (lt (v I 4) (ln (v (L I) 5)))
                              (.guard (le (c 0) (sub (v I 4) (c 1)))
                               (.guard (lt (sub (v I 4) (c 1)) (ln (st (v (L I) 5) (v I 4) (ix (v (L I) 5) (sub (v I 4) (c 1))))))
                                (.jump 0 [a (v I 0), a (v I 1), a (v I 2), a (v I 3), a (add (v I 4) (c 1)), a (st (st (v (L I) 5) (v I 4) (ix (v (L I) 5) (sub (v I 4) (c 1)))) (sub (v I 4) (c 1)) (ix (v (L I) 5) (v I 4)))])))))))))))))))
                  (.jump 1 [a (v I 0), a (v I 1), a (v I 2), a (v I 3), a (v (L I) 5)])))
                (.jump 0 [a (v I 0), a (v I 1), a (v I 2), a (v I 3), a (v (L I) 4)]))))))))))))))
   (.jump 0 [a (v I 0), a (v I 1), a (v I 2), a (add (v I 3) (c 1)), a (v (L I) 4)]))
  (.ret [a (k false), a (v (L I) 4)]))
def tr_slices_partitionEqualOrdered_int : Tr := .guard (le (c 0) (v I 3))
 (.guard (lt (v I 3) (ln (v (L I) 0)))
  (.guard (le (c 0) (v I 1))
   (.guard (lt (v I 1) (ln (v (L I) 0)))
    (.guard (le (c 0) (v I 1))
     (.guard (lt (v I 1) (ln (v (L I) 0)))
      (.guard (le (c 0) (v I 3))
       (.guard (lt (v I 3) (ln (st (v (L I) 0) (v I 1) (ix (v (L I) 0) (v I 3)))))
        (.loop [a (v I 1), a (add (v I 1) (c 1)), a (sub (v I 2) (c 1)), a (st (st (v (L I) 0) (v I 1) (ix (v (L I) 0) (v I 3))) (v I 3) (ix (v (L I) 0) (v I 1)))]
         (.join
          (.loop [a (v I 0), a (v I 1), a (v I 2), a (v (L I) 3)]
           (.ite (le (v I 1) (v I 2))
            (.guard (le (c 0) (v I 0))
             (.guard (lt (v I 0) (ln (v (L I) 3)))
              (.guard (le (c 0) (v I 1))
               (.guard (lt (v I 1) (ln (v (L I) 3)))
                (.call f_cmp_Less_int [a (ix (v (L I) 3) (v I 0)), a (ix (v (L I) 3) (v I 1))] 773
                 (.ite (nt (v B 773))
                  (.jump 0 [a (v I 0), a (add (v I 1) (c 1)), a (v I 2), a (v (L I) 3)])
                  (.jump 1 [a (v I 0), a (v I 1), a (v I 2), a (v (L I) 3)])))))))
            (.jump 1 [a (v I 0), a (v I 1), a (v I 2), a (v (L I) 3)])))
          (.join
           (.loop [a (v I 0), a (v I 1), a (v I 2), a (v (L I) 3)]
            (.ite (le (v I 1) (v I 2))
             (.guard (le (c 0) (v I 0))
              (.guard (lt (v I 0) (ln (v (L I) 3)))
               (.guard (le (c 0) (v I 2))
                (.guard (lt (v I 2) (ln (v (L I) 3)))
                 (.call f_cmp_Less_int [a (ix (v (L I) 3) (v I 0)), a (ix (v (L I) 3) (v I 2))] 773
                  (.ite (v B 773)
                   (.jump 0 [a (v I 0), a (v I 1), a (sub (v I 2) (c 1)), a (v (L I) 3)])
                   (.jump 1 [a (v I 0), a (v I 1), a (v I 2), a (v (L I) 3)])))))))
             (.jump 1 [a (v I 0), a (v I 1), a (v I 2), a (v (L I) 3)])))
           (.ite (gt (v I 1) (v I 2))
            (.ret [a (v I 1), a (v (L I) 3)])
            (.guard (le (c 0) (v I 2))
             (.guard (lt (v I 2) (ln (v (L I) 3)))
              (.guard (le (c 0) (v I 1))
               (.guard (lt (v I 1) (ln (v (L I) 3)))
                (.guard (le (c 0) (v I 1))
                 (.guard (lt (v I 1) (ln (v (L I) 3)))
                  (.guard (le (c 0) (v I 2))
                   (.guard (lt (v I 2) (ln (st (v (L I) 3) (v I 1) (ix (v (L I) 3) (v I 2)))))
                    (.jump 0 [a (v I 0), a (add (v I 1) (c 1)), a (sub (v I 2) (c 1)), a (st (st (v (L I) 3) (v I 1) (ix (v (L I) 3) (v I 2))) (v I 2) (ix (v (L I) 3) (v I 1)))]))))))))))))))))))))
def tr_slices_partitionOrdered_int : Tr := .guard (le (c 0) (v I 3))
 (.guard (lt (v I 3) (ln (v (L I) 0)))
  (.guard (le (c 0) (v I 1))
   (.guard (lt (v I 1) (ln (v (L I) 0)))
    (.guard (le (c 0) (v I 1))
     (.guard (lt (v I 1) (ln (v (L I) 0)))
      (.guard (le (c 0) (v I 3))
       (.guard (lt (v I 3) (ln (st (v (L I) 0) (v I 1) (ix (v (L I) 0) (v I 3)))))
        (.join
         (.loop [a (v I 1), a (add (v I 1) (c 1)), a (sub (v I 2) (c 1)), a (st (st (v (L I) 0) (v I 1) (ix (v (L I) 0) (v I 3))) (v I 3) (ix (v (L I) 0) (v I 1)))]
          (.ite (le (v I 1) (v I 2))
           (.guard (le (c 0) (v I 1))
            (.guard (lt (v I 1) (ln (v (L I) 3)))
             (.guard (le (c 0) (v I 0))
              (.guard (lt (v I 0) (ln (v (L I) 3)))
               (.call f_cmp_Less_int [a (ix (v (L I) 3) (v I 1)), a (ix (v (L I) 3) (v I 0))] 773
                (.ite (v B 773)
                 (.jump 0 [a (v I 0), a (add (v I 1) (c 1)), a (v I 2), a (v (L I) 3)])
                 (.jump 1 [a (v I 0), a (v I 1), a (v I 2), a (v (L I) 3)])))))))
           (.jump 1 [a (v I 0), a (v I 1), a (v I 2), a (v (L I) 3)])))
         (.join
          (.loop [a (v I 0), a (v I 1), a (v I 2), a (v (L I) 3)]
           (.ite (le (v I 1) (v I 2))
            (.guard (le (c 0) (v I 2))
             (.guard (lt (v I 2) (ln (v (L I) 3)))
              (.guard (le (c 0) (v I 0))
               (.guard (lt (v I 0) (ln (v (L I) 3)))
                (.call f_cmp_Less_int [a (ix (v (L I) 3) (v I 2)), a (ix (v (L I) 3) (v I 0))] 773
                 (.ite (nt (v B 773))
                  (.jump 0 [a (v I 0), a (v I 1), a (sub (v I 2) (c 1)), a (v (L I) 3)])
                  (.jump 1 [a (v I 0), a (v I 1), a (v I 2), a (v (L I) 3)])))))))
            (.jump 1 [a (v I 0), a (v I 1), a (v I 2), a (v (L I) 3)])))
          (.ite (gt (v I 1) (v I 2))
           (.guard (le (c 0) (v I 0))
            (.guard (lt (v I 0) (ln (v (L I) 3)))
             (.guard (le (c 0) (v I 2))
              (.guard (lt (v I 2) (ln (v (L I) 3)))
               (.guard (le (c 0) (v I 2))
                (.guard (lt (v I 2) (ln (v (L I) 3)))
                 (.guard (le (c 0) (v I 0))
                  (.guard (lt (v I 0) (ln (st (v (L I) 3) (v I 2) (ix (v (L I) 3) (v I 0)))))
                   (.ret [a (v I 2), a (k true), a (st (st (v (L I) 3) (v I 2) (ix (v (L I) 3) (v I 0))) (v I 0) (ix (v (L I) 3) (v I 2)))])))))))))
           (.guard (le (c 0) (v I 2))
            (.guard (lt (v I 2) (ln (v (L I) 3)))
             (.guard (le (c 0) (v I 1))
              (.guard (lt (v I 1) (ln (v (L I) 3)))
               (.guard (le (c 0) (v I 1))
                (.guard (lt (v I 1) (ln (v (L I) 3)))
                 (.guard (le (c 0) (v I 2))
                  (.guard (lt (v I 2) (ln (st (v (L I) 3) (v I 1) (ix (v (L I) 3) (v I 2)))))
                   (.loop [a (v I 0), a (add (v I 1) (c 1)), a (sub (v I 2) (c 1)), a (st (st (v (L I) 3) (v I 1) (ix (v (L I) 3) (v I 2))) (v I 2) (ix (v (L I) 3) (v I 1)))]
                    (.join
                     (.loop [a (v I 0), a (v I 1), a (v I 2), a (v (L I) 3)]
                      (.ite (le (v I 1) (v I 2))
                       (.guard (le (c 0) (v I 1))
                        (.guard (lt (v I 1) (ln (v (L I) 3)))
                         (.guard (le (c 0) (v I 0))
                          (.guard (lt (v I 0) (ln (v (L I) 3)))
                           (.call f_cmp_Less_int [a (ix (v (L I) 3) (v I 1)), a (ix (v (L I) 3) (v I 0))] 773
                            (.ite (v B 773)
                             (.jump 0 [a (v I 0), a (add (v I 1) (c 1)), a (v I 2), a (v (L I) 3)])
                             (.jump 1 [a (v I 0), a (v I 1), a (v I 2), a (v (L I) 3)])))))))
                       (.jump 1 [a (v I 0), a (v I 1), a (v I 2), a (v (L I) 3)])))
                     (.join
                      (.loop [a (v I 0), a (v I 1), a (v I 2), a (v (L I) 3)]
                       (.ite (le (v I 1) (v I 2))
                        (.guard (le (c 0) (v I 2))
                         (.guard (lt (v I 2) (ln (v (L I) 3)))
                          (.guard (le (c 0) (v I 0))
                           (.guard (lt (v I 0) (ln (v (L I) 3)))
                            (.call f_cmp_Less_int [a (ix (v (L I) 3) (v I 2)), a (ix (v (L I) 3) (v I 0))] 773
                             (.ite (nt (v B 773))
                              (.jump 0 [a (v I 0), a (v I 1), a (sub (v I 2) (c 1)), a (v (L I) 3)])
                              (.jump 1 [a (v I 0), a (v I 1), a (v I 2), a (v (L I) 3)])))))))
                        (.jump 1 [a (v I 0), a (v I 1), a (v I 2), a (v (L I) 3)])))
                      (.ite (gt (v I 1) (v I 2))
                       (.guard (le (c 0) (v I 0))
                        (.guard (lt (v I 0) (ln (v (L I) 3)))
                         (.guard (le (c 0) (v I 2))
                          (.guard (lt (v I 2) (ln (v (L I) 3)))
                           (.guard (le (c 0) (v I 2))
                            (.guard (lt (v I 2) (ln (v (L I) 3)))
                             (.guard (le (c 0) (v I 0))
                              (.guard (lt (v I 0) (ln (st (v (L I) 3) (v I 2) (ix (v (L I) 3) (v I 0)))))
                               (.ret [a (v I 2), a (k false), a (st (st (v (L I) 3) (v I 2) (ix (v (L I) 3) (v I 0))) (v I 0) (ix (v (L I) 3) (v I 2)))])))))))))
                       (.guard (le (c 0) (v I 2))
                        (.guard (lt (v I 2) (ln (v (L I) 3)))
                         (.guard (le (c 0) (v I 1))
                          (.guard (lt (v I 1) (ln (v (L I) 3)))
                           (.guard (le (c 0) (v I 1))
                            (.guard (lt (v I 1) (ln (v (L I) 3)))
                             (.guard (le (c 0) (v I 2))
                              (.guard (lt (v I 2) (ln (st (v (L I) 3) (v I 1) (ix (v (L I) 3) (v I 2)))))
                               (.jump 0 [a (v I 0), a (add (v I 1) (c 1)), a (sub (v I 2) (c 1)), a (st (st (v (L I) 3) (v I 1) (ix (v (L I) 3) (v I 2))) (v I 2) (ix (v (L I) 3) (v I 1)))])))))))))))))))))))))))))))))))
def tr_slices_pdqsortOrdered_int : Tr := .loop [a (v I 1), a (v I 2), a (v I 3), a (k true), a (k true), a (v (L I) 0)]
 (.ite (le (sub (v I 1) (v I 0)) (c 12))
  (.call f_slices_insertionSortOrdered_int [a (v (L I) 5), a (v I 0), a (v I 1)] 583
   (.ret [a (v (L I) 583)]))
  (.ite (eq (v I 2) (c 0))
   (.call f_slices_heapSortOrdered_int [a (v (L I) 5), a (v I 0), a (v I 1)] 711
    (.ret [a (v (L I) 711)]))
   (.join
    (.ite (nt (v B 3))
     (.call f_slices_breakPatternsOrdered_int [a (v (L I) 5), a (v I 0), a (v I 1)] 839
      (.jump 0 [a (v I 0), a (v I 1), a (sub (v I 2) (c 1)), a (v B 3), a (v B 4), a (sub (v I 1) (v I 0)), a (v (L I) 839)]))
     (.jump 0 [a (v I 0), a (v I 1), a (v I 2), a (v B 3), a (v B 4), a (sub (v I 1) (v I 0)), a (v (L I) 5)]))
    (.call f_slices_choosePivotOrdered_int [a (v (L I) 6), a (v I 0), a (v I 1)] 200
     (.join
      (.ite (eq (v I 201) (c 2))
       (.call f_slices_reverseRangeOrdered_int [a (v (L I) 6), a (v I 0), a (v I 1)] 904
        (.jump 0 [a (v I 0), a (v I 1), a (v I 2), a (v B 3), a (v B 4), a (v I 5), a (sub (sub (v I 1) (c 1)) (sub (v I 200) (v I 0))), a (c 1), a (v (L I) 904)]))
       (.jump 0 [a (v I 0), a (v I 1), a (v I 2), a (v B 3), a (v B 4), a (v I 5), a (v I 200), a (v I 201), a (v (L I) 6)]))
      (.join
       (.ite (v B 3)
        (.ite (v B 4)
         (.ite (eq (v I 7) (c 1))
          (.call f_slices_partialInsertionSortOrdered_int [a (v (L I) 8), a (v I 0), a (v I 1)] 714
           (.ite (v B 714)
            (.ret [a (v (L I) 715)])
            (.jump 0 [a (v I 0), a (v I 1), a (v I 2), a (k true), a (k true), a (v I 5), a (v I 6), a (v (L I) 715)])))
          (.jump 0 [a (v I 0), a (v I 1), a (v I 2), a (k true), a (k true), a (v I 5), a (v I 6), a (v (L I) 8)]))
         (.jump 0 [a (v I 0), a (v I 1), a (v I 2), a (k true), a (k false), a (v I 5), a (v I 6), a (v (L I) 8)]))
        (.jump 0 [a (v I 0), a (v I 1), a (v I 2), a (k false), a (v B 4), a (v I 5), a (v I 6), a (v (L I) 8)]))
       (.join
        (.ite (gt (v I 0) (c 0))
         (.guard (le (c 0) (sub (v I 0) (c 1)))
          (.guard (lt (sub (v I 0) (c 1)) (ln (v (L I) 7)))
           (.guard (le (c 0) (v I 6))
            (.guard (lt (v I 6) (ln (v (L I) 7)))
             (.call f_cmp_Less_int [a (ix (v (L I) 7) (sub (v I 0) (c 1))), a (ix (v (L I) 7) (v I 6))] 777
              (.ite (nt (v B 777))
               (.call f_slices_partitionEqualOrdered_int [a (v (L I) 7), a (v I 0), a (v I 1), a (v I 6)] 1225
                (.jump 1 [a (v I 1225), a (v I 1), a (v I 2), a (v B 3), a (v B 4), a (v (L I) 1226)]))
               (.jump 0 [a (v I 0), a (v I 1), a (v I 2), a (v I 5), a (v I 6), a (v (L I) 7)])))))))
         (.jump 0 [a (v I 0), a (v I 1), a (v I 2), a (v I 5), a (v I 6), a (v (L I) 7)]))
        (.call f_slices_partitionOrdered_int [a (v (L I) 5), a (v I 0), a (v I 1), a (v I 4)] 263
         (.ite (lt (sub (v I 263) (v I 0)) (sub (v I 1) (v I 263)))
          (.call f_slices_pdqsortOrdered_int [a (v (L I) 265), a (v I 0), a (v I 263), a (v I 2)] 2183
           (.jump 0 [a (add (v I 263) (c 1)), a (v I 1), a (v I 2), a (ge (sub (v I 263) (v I 0)) (quo (v I 3) (c 8))), a (v B 264), a (v (L I) 2183)]))
          (.call f_slices_pdqsortOrdered_int [a (v (L I) 265), a (add (v I 263) (c 1)), a (v I 1), a (v I 2)] 2247
           (.jump 0 [a (v I 0), a (v I 263), a (v I 2), a (ge (sub (v I 1) (v I 263)) (quo (v I 3) (c 8))), a (v B 264), a (v (L I) 2247)])))))))))))
def tr_impl_touchedBy : Tr := .guard (le (c 0) (v I 2))
 (.guard (lt (v I 2) (ln (v (L TR) 1)))
  (.call f_impl_usedBy [a (f (ix (v (L TR) 1) (v I 2))), a (ln (v (L V3) 0))] 100896
   (.loop [a (s (s (ix (v (L TR) 1) (v I 2)))), a (ln (s (s (ix (v (L TR) 1) (v I 2))))), a (c 0), a (v (L V3) 0), a (v (L TR) 1), a (v (L I) 100896)]
    (.ite (lt (v I 2) (v I 1))
     (.guard (le (c 0) (v I 2))
      (.guard (lt (v I 2) (ln (v (L (L T4)) 0)))
       (.call f_impl_usedBy [a (ix (v (L (L T4)) 0) (v I 2)), a (ln (v (L V3) 3))] 584
        (.guard (le (ln (v (L I) 5)) (c 549755813888))
         (.guard (le (ln (v (L I) 584)) (c 549755813888))
          (.jump 0 [a (v (L (L T4)) 0), a (v I 1), a (add (v I 2) (c 1)), a (v (L V3) 3), a (v (L TR) 4), a (app (v (L I) 5) (v (L I) 584))]))))))
     (.guard (le (ln (v (L I) 5)) (c 549755813888))
      (.guard (le (ln (.o1 (.hnd 0) (v (L I) 5))) (c 549755813888))
       (.call f_impl_clone_int [a (.o1 (.hnd 1) (.o1 (.hnd 0) (v (L I) 5)))] 328
        (.ret [a (v (L I) 328)]))))))))
end Go.Proofs.YtlfinllnfggiiaaGreat
namespace Go.Proofs.YtlfinllnfggiiaaGreat
open Go Go.Sm Go.Sm.Q
def tr_impl_rulesApart : Tr := .guard (le (c 0) (v I 2))
 (.guard (lt (v I 2) (ln (v (L TR) 1)))
  (.guard (le (c 0) (v I 3))
   (.guard (lt (v I 3) (ln (v (L TR) 1)))
    (.call f_impl_meets [a (f (s (ix (v (L TR) 1) (v I 2)))), a (f (s (ix (v (L TR) 1) (v I 3))))] 101152
     (.ite (nt (v B 101152))
      (.call f_impl_touchedBy [a (v (L V3) 0), a (v (L TR) 1), a (v I 3)] 101536
       (.call f_impl_meets [a (f (s (ix (v (L TR) 1) (v I 2)))), a (v (L I) 101536)] 101600
        (.ite (nt (v B 101600))
         (.call f_impl_touchedBy [a (v (L V3) 0), a (v (L TR) 1), a (v I 2)] 102048
          (.call f_impl_meets [a (f (s (ix (v (L TR) 1) (v I 3)))), a (v (L I) 102048)] 102112
           (.ret [a (nt (v B 102112))])))
         (.ret [a (k false)]))))
      (.ret [a (k false)]))))))
def tr_impl_RulesApart : Tr := .call f_impl_SystemValid [a (v (L V3) 0), a (v (L TR) 1)] 100192
 (.ite (v B 100192)
  (.call f_impl_in [a (v I 2), a (c 0), a (sub (ln (v (L TR) 1)) (c 1))] 100640
   (.ite (v B 100640)
    (.call f_impl_in [a (v I 3), a (c 0), a (sub (ln (v (L TR) 1)) (c 1))] 101152
     (.ite (v B 101152)
      (.call f_impl_rulesApart [a (v (L V3) 0), a (v (L TR) 1), a (v I 2), a (v I 3)] 101536
       (.ret [a (v B 101536)]))
      (.ret [a (k false)])))
    (.ret [a (k false)])))
  (.ret [a (k false)]))
def tr_spec_l2Var : Tr := .call f_spec_l1In [a (v I 0), a (c (-9999)), a (c 9999)] 100256
 (.ite (v B 100256)
  (.call f_spec_l1In [a (v I 1), a (v I 0), a (c 9999)] 100640
   (.ite (v B 100640)
    (.ite (lt (sub (v I 1) (v I 0)) (c 20))
     (.call f_spec_l1In [a (v I 2), a (v I 0), a (v I 1)] 101728
      (.ret [a (v B 101728)]))
     (.ret [a (k false)]))
    (.ret [a (k false)])))
  (.ret [a (k false)]))
def tr_spec_l2Is : Tr := .call f_spec_KindsOf [a (v (L T4) 0), a (v I 1)] 100192
 (.ite (gt (ln (v (L I) 100192)) (c 0))
  (.guard (le (c 0) (sub (ln (v (L I) 100192)) (c 1)))
   (.guard (lt (sub (ln (v (L I) 100192)) (c 1)) (ln (v (L I) 100192)))
    (.ret [a (eq (ix (v (L I) 100192) (sub (ln (v (L I) 100192)) (c 1))) (v I 2))])))
  (.ret [a (k false)]))
def tr_spec_l2Rule : Tr := .call f_spec_l2Is [a (v (L T4) 0), a (v I 3), a (c 2)] 100320
 (.ite (nt (v B 100320))
  (.ret [a (k false)])
  (.ite (ne (ln (v (L I) 1)) (ln (v (L (L T4)) 2)))
   (.ret [a (k false)])
   (.ite (gt (ln (v (L I) 1)) (v I 3))
    (.ret [a (k false)])
    (.loop [a (v I 3), a (c 0), a (v (L T4) 0), a (v (L I) 1), a (v (L (L T4)) 2)]
     (.ite (lt (v I 1) (ln (v (L I) 3)))
      (.join
       (.guard (le (c 0) (v I 1))
        (.guard (lt (v I 1) (ln (v (L I) 3)))
         (.call f_spec_l1In [a (ix (v (L I) 3) (v I 1)), a (c 0), a (sub (v I 0) (c 1))] 774
          (.ite (nt (v B 774))
           (.ret [a (k false)])
           (.ite (gt (v I 1) (c 0))
            (.guard (le (c 0) (v I 1))
             (.guard (lt (v I 1) (ln (v (L I) 3)))
              (.guard (le (c 0) (sub (v I 1) (c 1)))
               (.guard (lt (sub (v I 1) (c 1)) (ln (v (L I) 3)))
                (.ite (le (ix (v (L I) 3) (v I 1)) (ix (v (L I) 3) (sub (v I 1) (c 1))))
                 (.ret [a (k false)])
                 (.guard (le (c 0) (v I 1))
                  (.guard (lt (v I 1) (ln (v (L (L T4)) 4)))
                   (.call f_spec_l2Is [a (ix (v (L (L T4)) 4) (v I 1)), a (v I 0), a (c 1)] 2502
                    (.ite (nt (v B 2502))
                     (.ret [a (k false)])
                     (.jump 0 [a (v I 0), a (v I 1), a (v (L T4) 2), a (v (L I) 3), a (v (L (L T4)) 4)]))))))))))
            (.guard (le (c 0) (v I 1))
             (.guard (lt (v I 1) (ln (v (L (L T4)) 4)))
              (.call f_spec_l2Is [a (ix (v (L (L T4)) 4) (v I 1)), a (v I 0), a (c 1)] 2502
               (.ite (nt (v B 2502))
                (.ret [a (k false)])
                (.jump 0 [a (v I 0), a (v I 1), a (v (L T4) 2), a (v (L I) 3), a (v (L (L T4)) 4)]))))))))))
       (.jump 0 [a (v I 0), a (add (v I 1) (c 1)), a (v (L T4) 2), a (v (L I) 3), a (v (L (L T4)) 4)]))
      (.ret [a (k true)]))))))
def tr_spec_SystemValid : Tr := .call f_spec_l1In [a (ln (v (L V3) 0)), a (c 1), a (c 5)] 100320
 (.ite (nt (v B 100320))
  (.ret [a (k false)])
  (.ite (gt (ln (v (L TR) 1)) (c 8))
   (.ret [a (k false)])
   (.loop [a (c 1), a (c 0), a (v (L V3) 0), a (v (L TR) 1)]
    (.ite (lt (v I 1) (ln (v (L V3) 2)))
     (.guard (le (c 0) (v I 1))
      (.guard (lt (v I 1) (ln (v (L V3) 2)))
       (.call f_spec_l2Var [a (f (ix (v (L V3) 2) (v I 1))), a (f (s (ix (v (L V3) 2) (v I 1)))), a (s (s (ix (v (L V3) 2) (v I 1))))] 645
        (.ite (nt (v B 645))
         (.ret [a (k false)])
         (.guard (le (c 0) (v I 1))
          (.guard (lt (v I 1) (ln (v (L V3) 2)))
           (.guard (le (c 0) (v I 1))
            (.guard (lt (v I 1) (ln (v (L V3) 2)))
             (.jump 0 [a (mul (v I 0) (add (sub (f (s (ix (v (L V3) 2) (v I 1)))) (f (ix (v (L V3) 2) (v I 1)))) (c 1))), a (add (v I 1) (c 1)), a (v (L V3) 2), a (v (L TR) 3)])))))))))
     (.loop [a (v I 0), a (c 0), a (v (L V3) 2), a (v (L TR) 3)]
      (.ite (lt (v I 1) (ln (v (L TR) 3)))
       (.guard (le (c 0) (v I 1))
        (.guard (lt (v I 1) (ln (v (L TR) 3)))
         (.call f_spec_l2Rule [a (f (ix (v (L TR) 3) (v I 1))), a (f (s (ix (v (L TR) 3) (v I 1)))), a (s (s (ix (v (L TR) 3) (v I 1)))), a (ln (v (L V3) 2))] 837
          (.ite (nt (v B 837))
           (.ret [a (k false)])
           (.jump 0 [a (v I 0), a (add (v I 1) (c 1)), a (v (L V3) 2), a (v (L TR) 3)])))))
       (.ret [a (le (v I 0) (c 400))])))))))
def tr_spec_l1Needed : Tr := .loop [a (v (L T4) 0), a (c 0), a (nl B)]
 (.ite (lt (v I 1) (ln (v (L T4) 0)))
  (.guard (le (ln (v (L B) 2)) (c 549755813888))
   (.guard (le (ln (one (eq (v I 1) (sub (ln (v (L T4) 0)) (c 1))))) (c 549755813888))
    (.jump 0 [a (v (L T4) 0), a (add (v I 1) (c 1)), a (app (v (L B) 2) (one (eq (v I 1) (sub (ln (v (L T4) 0)) (c 1)))))])))
  (.loop [a (v (L T4) 0), a (sub (ln (v (L T4) 0)) (c 1)), a (v (L B) 2)]
   (.ite (ge (v I 1) (c 0))
    (.join
     (.guard (le (c 0) (v I 1))
      (.guard (lt (v I 1) (ln (v (L B) 2)))
       (.ite (ix (v (L B) 2) (v I 1))
        (.guard (le (c 0) (v I 1))
         (.guard (lt (v I 1) (ln (v (L T4) 0)))
          (.ite (ge (f (ix (v (L T4) 0) (v I 1))) (c 2))
           (.guard (le (c 0) (v I 1))
            (.guard (lt (v I 1) (ln (v (L T4) 0)))
             (.guard (le (c 0) (f (s (s (ix (v (L T4) 0) (v I 1))))))
              (.guard (lt (f (s (s (ix (v (L T4) 0) (v I 1))))) (ln (v (L B) 2)))
               (.guard (le (c 0) (v I 1))
                (.guard (lt (v I 1) (ln (v (L T4) 0)))
                 (.guard (le (c 0) (s (s (s (ix (v (L T4) 0) (v I 1))))))
                  (.guard (lt (s (s (s (ix (v (L T4) 0) (v I 1))))) (ln (st (v (L B) 2) (f (s (s (ix (v (L T4) 0) (v I 1))))) (k true))))
                   (.jump 0 [a (v (L T4) 0), a (v I 1), a (st (st (v (L B) 2) (f (s (s (ix (v (L T4) 0) (v I 1))))) (k true)) (s (s (s (ix (v (L T4) 0) (v I 1))))) (k true))])))))))))
           (.jump 0 [a (v (L T4) 0), a (v I 1), a (v (L B) 2)]))))
        (.jump 0 [a (v (L T4) 0), a (v I 1), a (v (L B) 2)]))))
     (.jump 0 [a (v (L T4) 0), a (sub (v I 1) (c 1)), a (v (L B) 2)]))
    (.ret [a (v (L B) 2)]))))
def tr_spec_UsedBy : Tr := .call f_spec_TermsValid [a (v (L T4) 0), a (v I 1)] 100320
 (.ite (nt (v B 100320))
  (.ret [a (nl I)])
  (.call f_spec_l1Needed [a (v (L T4) 0)] 100512
   (.loop [a (v (L T4) 0), a (v I 1), a (c 0), a (nl I), a (v (L B) 100512)]
    (.ite (lt (v I 2) (v I 1))
     (.join
      (.loop [a (v (L T4) 0), a (v I 1), a (v I 2), a (k false), a (c 0), a (v (L I) 3), a (v (L B) 4)]
       (.ite (lt (v I 4) (ln (v (L T4) 0)))
        (.join
         (.ite (v B 3)
          (.jump 0 [a (v (L T4) 0), a (v I 1), a (v I 2), a (k true), a (v I 4), a (v (L I) 5), a (v (L B) 6)])
          (.guard (le (c 0) (v I 4))
           (.guard (lt (v I 4) (ln (v (L B) 6)))
            (.ite (ix (v (L B) 6) (v I 4))
             (.guard (le (c 0) (v I 4))
              (.guard (lt (v I 4) (ln (v (L T4) 0)))
               (.ite (eq (f (ix (v (L T4) 0) (v I 4))) (c 1))
                (.guard (le (c 0) (v I 4))
                 (.guard (lt (v I 4) (ln (v (L T4) 0)))
                  (.jump 0 [a (v (L T4) 0), a (v I 1), a (v I 2), a (eq (f (s (ix (v (L T4) 0) (v I 4)))) (v I 2)), a (v I 4), a (v (L I) 5), a (v (L B) 6)])))
                (.jump 0 [a (v (L T4) 0), a (v I 1), a (v I 2), a (k false), a (v I 4), a (v (L I) 5), a (v (L B) 6)]))))
             (.jump 0 [a (v (L T4) 0), a (v I 1), a (v I 2), a (k false), a (v I 4), a (v (L I) 5), a (v (L B) 6)])))))
         (.jump 0 [a (v (L T4) 0), a (v I 1), a (v I 2), a (v B 3), a (add (v I 4) (c 1)), a (v (L I) 5), a (v (L B) 6)]))
        (.ite (v B 3)
         (.guard (le (ln (v (L I) 5)) (c 549755813888))
          (.guard (le (ln (one (v I 2))) (c 549755813888))
           (.jump 1 [a (v (L T4) 0), a (v I 1), a (v I 2), a (app (v (L I) 5) (one (v I 2))), a (v (L B) 6)])))
         (.jump 1 [a (v (L T4) 0), a (v I 1), a (v I 2), a (v (L I) 5), a (v (L B) 6)]))))
      (.jump 0 [a (v (L T4) 0), a (v I 1), a (add (v I 2) (c 1)), a (v (L I) 3), a (v (L B) 4)]))
     (.ret [a (v (L I) 3)])))))
def tr_spec_l2Has : Tr := .loop [a (v (L I) 0), a (v I 1), a (c 0)]
 (.ite (lt (v I 2) (ln (v (L I) 0)))
  (.guard (le (c 0) (v I 2))
   (.guard (lt (v I 2) (ln (v (L I) 0)))
    (.ite (eq (ix (v (L I) 0) (v I 2)) (v I 1))
     (.ret [a (k true)])
     (.jump 0 [a (v (L I) 0), a (v I 1), a (add (v I 2) (c 1))]))))
  (.ret [a (k false)]))
def tr_spec_TouchedBy : Tr := .call f_spec_SystemValid [a (v (L V3) 0), a (v (L TR) 1)] 100256
 (.ite (nt (v B 100256))
  (.ret [a (nl I), a (nl I)])
  (.call f_spec_l1In [a (v I 2), a (c 0), a (sub (ln (v (L TR) 1)) (c 1))] 100768
   (.ite (nt (v B 100768))
    (.ret [a (nl I), a (nl I)])
    (.guard (le (c 0) (v I 2))
     (.guard (lt (v I 2) (ln (v (L TR) 1)))
      (.loop [a (c 0), a (v (L V3) 0), a (v (L TR) 1), a (f (ix (v (L TR) 1) (v I 2))), a (f (s (ix (v (L TR) 1) (v I 2)))), a (s (s (ix (v (L TR) 1) (v I 2)))), a (nl I)]
       (.ite (lt (v I 0) (ln (v (L I) 4)))
        (.guard (le (c 0) (v I 0))
         (.guard (lt (v I 0) (ln (v (L I) 4)))
          (.guard (le (ln (v (L I) 6)) (c 549755813888))
           (.guard (le (ln (one (ix (v (L I) 4) (v I 0)))) (c 549755813888))
            (.jump 0 [a (add (v I 0) (c 1)), a (v (L V3) 1), a (v (L TR) 2), a (v (L T4) 3), a (v (L I) 4), a (v (L (L T4)) 5), a (app (v (L I) 6) (one (ix (v (L I) 4) (v I 0))))])))))
        (.loop [a (c 0), a (v (L V3) 1), a (v (L TR) 2), a (v (L T4) 3), a (v (L I) 4), a (v (L (L T4)) 5), a (v (L I) 6), a (nl I)]
         (.ite (lt (v I 0) (ln (v (L V3) 1)))
          (.join
           (.call f_spec_UsedBy [a (v (L T4) 3), a (ln (v (L V3) 1))] 652
            (.call f_spec_l2Has [a (v (L I) 652), a (v I 0)] 780
             (.loop [a (v I 0), a (v B 780), a (c 0), a (v (L V3) 1), a (v (L TR) 2), a (v (L T4) 3), a (v (L I) 4), a (v (L (L T4)) 5), a (v (L I) 6), a (v (L I) 7)]
              (.ite (lt (v I 2) (ln (v (L (L T4)) 7)))
               (.join
                (.ite (v B 1)
                 (.jump 0 [a (v I 0), a (k true), a (v I 2), a (v (L V3) 3), a (v (L TR) 4), a (v (L T4) 5), a (v (L I) 6), a (v (L (L T4)) 7), a (v (L I) 8), a (v (L I) 9)])
                 (.guard (le (c 0) (v I 2))
                  (.guard (lt (v I 2) (ln (v (L (L T4)) 7)))
                   (.call f_spec_UsedBy [a (ix (v (L (L T4)) 7) (v I 2)), a (ln (v (L V3) 3))] 1038
                    (.call f_spec_l2Has [a (v (L I) 1038), a (v I 0)] 1102
                     (.jump 0 [a (v I 0), a (v B 1102), a (v I 2), a (v (L V3) 3), a (v (L TR) 4), a (v (L T4) 5), a (v (L I) 6), a (v (L (L T4)) 7), a (v (L I) 8), a (v (L I) 9)]))))))
                (.jump 0 [a (v I 0), a (v B 1), a (add (v I 2) (c 1)), a (v (L V3) 3), a (v (L TR) 4), a (v (L T4) 5), a (v (L I) 6), a (v (L (L T4)) 7), a (v (L I) 8), a (v (L I) 9)]))
               (.ite (v B 1)
                (.guard (le (ln (v (L I) 9)) (c 549755813888))
                 (.guard (le (ln (one (v I 0))) (c 549755813888))
                  (.jump 1 [a (v I 0), a (v (L V3) 3), a (v (L TR) 4), a (v (L T4) 5), a (v (L I) 6), a (v (L (L T4)) 7), a (v (L I) 8), a (app (v (L I) 9) (one (v I 0)))])))
                (.jump 1 [a (v I 0), a (v (L V3) 3), a (v (L TR) 4), a (v (L T4) 5), a (v (L I) 6), a (v (L (L T4)) 7), a (v (L I) 8), a (v (L I) 9)]))))))
           (.jump 0 [a (add (v I 0) (c 1)), a (v (L V3) 1), a (v (L TR) 2), a (v (L T4) 3), a (v (L I) 4), a (v (L (L T4)) 5), a (v (L I) 6), a (v (L I) 7)]))
          (.ret [a (v (L I) 6), a (v (L I) 7)]))))))))))
def tr_spec_l26Meet : Tr := .loop [a (v (L I) 0), a (v (L I) 1), a (c 0)]
 (.ite (lt (v I 2) (ln (v (L I) 0)))
  (.guard (le (c 0) (v I 2))
   (.guard (lt (v I 2) (ln (v (L I) 0)))
    (.call f_spec_l2Has [a (v (L I) 1), a (ix (v (L I) 0) (v I 2))] 579
     (.ite (v B 579)
      (.ret [a (k true)])
      (.jump 0 [a (v (L I) 0), a (v (L I) 1), a (add (v I 2) (c 1))])))))
  (.ret [a (k false)]))
def tr_spec_l26Apart : Tr := .call f_spec_TouchedBy [a (v (L V3) 0), a (v (L TR) 1), a (v I 2)] 100256
 (.call f_spec_TouchedBy [a (v (L V3) 0), a (v (L TR) 1), a (v I 3)] 100768
  (.call f_spec_l26Meet [a (v (L I) 100256), a (v (L I) 100768)] 101280
   (.ite (nt (v B 101280))
    (.call f_spec_l26Meet [a (v (L I) 100256), a (v (L I) 100769)] 101600
     (.ite (nt (v B 101600))
      (.call f_spec_l26Meet [a (v (L I) 100768), a (v (L I) 100257)] 101984
       (.ret [a (nt (v B 101984))]))
      (.ret [a (k false)])))
    (.ret [a (k false)]))))
def tr_spec_RulesApart : Tr := .call f_spec_SystemValid [a (v (L V3) 0), a (v (L TR) 1)] 100512
 (.ite (v B 100512)
  (.call f_spec_l1In [a (v I 2), a (c 0), a (sub (ln (v (L TR) 1)) (c 1))] 100768
   (.ite (v B 100768)
    (.call f_spec_l1In [a (v I 3), a (c 0), a (sub (ln (v (L TR) 1)) (c 1))] 101088
     (.ite (v B 101088)
      (.call f_spec_l26Apart [a (v (L V3) 0), a (v (L TR) 1), a (v I 2), a (v I 3)] 101472
       (.ret [a (v B 101472)]))
      (.ret [a (k false)])))
    (.ret [a (k false)])))
  (.ret [a (k false)]))
def tr_impl_SizeOf : Tr := .call f_impl_SystemValid [a (v (L V3) 0), a (v (L TR) 1)] 100192
 (.ite (nt (v B 100192))
  (.ret [a (c 0)])
  (.call f_impl_size [a (v (L V3) 0)] 100448
   (.ret [a (v I 100448)])))
def tr_spec_SizeOf : Tr := .call f_spec_SystemValid [a (v (L V3) 0), a (v (L TR) 1)] 100192
 (.ite (nt (v B 100192))
  (.ret [a (c 0)])
  (.loop [a (c 1), a (c 0), a (v (L V3) 0), a (v (L TR) 1)]
   (.ite (lt (v I 1) (ln (v (L V3) 2)))
    (.guard (le (c 0) (v I 1))
     (.guard (lt (v I 1) (ln (v (L V3) 2)))
      (.guard (le (c 0) (v I 1))
       (.guard (lt (v I 1) (ln (v (L V3) 2)))
        (.jump 0 [a (mul (v I 0) (add (sub (f (s (ix (v (L V3) 2) (v I 1)))) (f (ix (v (L V3) 2) (v I 1)))) (c 1))), a (add (v I 1) (c 1)), a (v (L V3) 2), a (v (L TR) 3)])))))
    (.ret [a (v I 0)]))))
def tr_impl_stateAt : Tr := .guard (le (c 0) (ln (v (L V3) 0)))
 (.guard (le (ln (v (L V3) 0)) (c 549755813888))
  (.loop [a (v I 2), a (sub (ln (rep (ln (v (L V3) 0)) (z I))) (c 1)), a (v (L V3) 0), a (v (L TR) 1), a (rep (ln (v (L V3) 0)) (z I))]
   (.ite (ge (v I 1) (c 0))
    (.guard (le (c 0) (v I 1))
     (.guard (lt (v I 1) (ln (v (L V3) 2)))
      (.guard (ne (add (sub (f (s (ix (v (L V3) 2) (v I 1)))) (f (ix (v (L V3) 2) (v I 1)))) (c 1)) (c 0))
       (.guard (le (c 0) (v I 1))
        (.guard (lt (v I 1) (ln (v (L I) 4)))
         (.guard (ne (add (sub (f (s (ix (v (L V3) 2) (v I 1)))) (f (ix (v (L V3) 2) (v I 1)))) (c 1)) (c 0))
          (.jump 0 [a (quo (v I 0) (add (sub (f (s (ix (v (L V3) 2) (v I 1)))) (f (ix (v (L V3) 2) (v I 1)))) (c 1))), a (sub (v I 1) (c 1)), a (v (L V3) 2), a (v (L TR) 3), a (st (v (L I) 4) (v I 1) (add (f (ix (v (L V3) 2) (v I 1))) (rem (v I 0) (add (sub (f (s (ix (v (L V3) 2) (v I 1)))) (f (ix (v (L V3) 2) (v I 1)))) (c 1)))))])))))))
    (.ret [a (v (L I) 4)]))))
def tr_impl_StateAt : Tr := .call f_impl_SizeOf [a (v (L V3) 0), a (v (L TR) 1)] 100256
 (.call f_impl_in [a (v I 2), a (c 0), a (sub (v I 100256) (c 1))] 100384
  (.ite (nt (v B 100384))
   (.ret [a (nl I)])
   (.call f_impl_stateAt [a (v (L V3) 0), a (v (L TR) 1), a (v I 2)] 100640
    (.ret [a (v (L I) 100640)]))))
def tr_impl_inRange : Tr := .ite (ne (ln (v (L I) 2)) (ln (v (L V3) 0)))
 (.ret [a (k false)])
 (.loop [a (v (L I) 2), a (v (L V3) 0), a (ln (v (L V3) 0)), a (c 0)]
  (.ite (lt (v I 3) (v I 2))
   (.guard (le (c 0) (v I 3))
    (.guard (lt (v I 3) (ln (v (L V3) 1)))
     (.guard (le (c 0) (v I 3))
      (.guard (lt (v I 3) (ln (v (L I) 0)))
       (.call f_impl_in [a (ix (v (L I) 0) (v I 3)), a (f (ix (v (L V3) 1) (v I 3))), a (f (s (ix (v (L V3) 1) (v I 3))))] 964
        (.ite (nt (v B 964))
         (.ret [a (k false)])
         (.jump 0 [a (v (L I) 0), a (v (L V3) 1), a (v I 2), a (add (v I 3) (c 1))])))))))
   (.ret [a (k true)])))
def tr_impl_InRange : Tr := .call f_impl_SystemValid [a (v (L V3) 0), a (v (L TR) 1)] 100192
 (.ite (v B 100192)
  (.call f_impl_inRange [a (v (L V3) 0), a (v (L TR) 1), a (v (L I) 2)] 100448
   (.ret [a (v B 100448)]))
  (.ret [a (k false)]))
def tr_impl_held : Tr := .ret [a (.o2 (.mx .i64) (c (-9999)) (.o2 (.mn .i64) (c 9999) (v I 0)))]
def tr_impl_bit : Tr := .ite (v B 0)
 (.ret [a (c 1)])
 (.ret [a (c 0)])
def tr_impl_do : Tr := .ite (eq (v I 0) (c 2))
 (.call f_impl_held [a (add (v I 1) (v I 2))] 100448
  (.ret [a (v I 100448)]))
 (.ite (eq (v I 0) (c 3))
  (.call f_impl_held [a (sub (v I 1) (v I 2))] 100576
   (.ret [a (v I 100576)]))
  (.ite (eq (v I 0) (c 4))
   (.call f_impl_held [a (mul (v I 1) (v I 2))] 100704
    (.ret [a (v I 100704)]))
   (.ite (eq (v I 0) (c 5))
    (.call f_impl_bit [a (lt (v I 1) (v I 2))] 100832
     (.ret [a (v I 100832)]))
    (.ite (eq (v I 0) (c 6))
     (.call f_impl_bit [a (eq (v I 1) (v I 2))] 100960
      (.ret [a (v I 100960)]))
     (.ite (eq (v I 0) (c 7))
      (.ret [a (sub (c 1) (v I 1))])
      (.ite (eq (v I 0) (c 8))
       (.ret [a (.o2 (.mn .i64) (v I 1) (v I 2))])
       (.ret [a (.o2 (.mx .i64) (v I 1) (v I 2))])))))))
def tr_impl_eval : Tr := .guard (le (c 0) (ln (v (L T4) 0)))
 (.guard (le (ln (v (L T4) 0)) (c 549755813888))
  (.loop [a (v (L I) 1), a (v (L T4) 0), a (ln (v (L T4) 0)), a (c 0), a (rep (ln (v (L T4) 0)) (z I))]
   (.ite (lt (v I 3) (v I 2))
    (.join
     (.guard (le (c 0) (v I 3))
      (.guard (lt (v I 3) (ln (v (L T4) 1)))
       (.ite (eq (f (ix (v (L T4) 1) (v I 3))) (c 0))
        (.guard (le (c 0) (v I 3))
         (.guard (lt (v I 3) (ln (v (L I) 4)))
          (.jump 0 [a (v (L I) 0), a (v (L T4) 1), a (v I 2), a (v I 3), a (st (v (L I) 4) (v I 3) (f (s (ix (v (L T4) 1) (v I 3)))))])))
        (.ite (eq (f (ix (v (L T4) 1) (v I 3))) (c 1))
         (.guard (le (c 0) (f (s (ix (v (L T4) 1) (v I 3)))))
          (.guard (lt (f (s (ix (v (L T4) 1) (v I 3)))) (ln (v (L I) 0)))
           (.guard (le (c 0) (v I 3))
            (.guard (lt (v I 3) (ln (v (L I) 4)))
             (.jump 0 [a (v (L I) 0), a (v (L T4) 1), a (v I 2), a (v I 3), a (st (v (L I) 4) (v I 3) (ix (v (L I) 0) (f (s (ix (v (L T4) 1) (v I 3))))))])))))
         (.guard (le (c 0) (f (s (s (ix (v (L T4) 1) (v I 3))))))
          (.guard (lt (f (s (s (ix (v (L T4) 1) (v I 3))))) (ln (v (L I) 4)))
           (.guard (le (c 0) (s (s (s (ix (v (L T4) 1) (v I 3))))))
            (.guard (lt (s (s (s (ix (v (L T4) 1) (v I 3))))) (ln (v (L I) 4)))
             (.call f_impl_do [a (f (ix (v (L T4) 1) (v I 3))), a (ix (v (L I) 4) (f (s (s (ix (v (L T4) 1) (v I 3)))))), a (ix (v (L I) 4) (s (s (s (ix (v (L T4) 1) (v I 3))))))] 1734
              (.guard (le (c 0) (v I 3))
               (.guard (lt (v I 3) (ln (v (L I) 4)))
                (.jump 0 [a (v (L I) 0), a (v (L T4) 1), a (v I 2), a (v I 3), a (st (v (L I) 4) (v I 3) (v I 1734))]))))))))))))
     (.jump 0 [a (v (L I) 0), a (v (L T4) 1), a (v I 2), a (add (v I 3) (c 1)), a (v (L I) 4)]))
    (.guard (le (c 0) (sub (ln (v (L I) 4)) (c 1)))
     (.guard (lt (sub (ln (v (L I) 4)) (c 1)) (ln (v (L I) 4)))
      (.ret [a (ix (v (L I) 4) (sub (ln (v (L I) 4)) (c 1)))]))))))
def tr_impl_use : Tr := .guard (le (c 0) (v I 3))
 (.guard (lt (v I 3) (ln (v (L TR) 1)))
  (.call f_impl_eval [a (f (ix (v (L TR) 1) (v I 3))), a (v (L I) 2)] 100832
   (.ite (eq (v I 100832) (c 0))
    (.ret [a (nl I), a (k false)])
    (.call f_impl_clone_int [a (v (L I) 2)] 101024
     (.loop [a (v (L I) 2), a (f (s (ix (v (L TR) 1) (v I 3)))), a (ln (f (s (ix (v (L TR) 1) (v I 3))))), a (c 0), a (v (L V3) 0), a (v (L TR) 1), a (f (ix (v (L TR) 1) (v I 3))), a (f (s (ix (v (L TR) 1) (v I 3)))), a (s (s (ix (v (L TR) 1) (v I 3)))), a (v (L I) 101024)]
      (.ite (lt (v I 3) (v I 2))
       (.guard (le (c 0) (v I 3))
        (.guard (lt (v I 3) (ln (v (L I) 1)))
         (.guard (le (c 0) (v I 3))
          (.guard (lt (v I 3) (ln (v (L (L T4)) 8)))
           (.call f_impl_eval [a (ix (v (L (L T4)) 8) (v I 3)), a (v (L I) 0)] 909
            (.guard (le (c 0) (ix (v (L I) 1) (v I 3)))
             (.guard (lt (ix (v (L I) 1) (v I 3)) (ln (v (L I) 9)))
              (.jump 0 [a (v (L I) 0), a (v (L I) 1), a (v I 2), a (add (v I 3) (c 1)), a (v (L V3) 4), a (v (L TR) 5), a (v (L T4) 6), a (v (L I) 7), a (v (L (L T4)) 8), a (st (v (L I) 9) (ix (v (L I) 1) (v I 3)) (v I 909))]))))))))
       (.call f_impl_inRange [a (v (L V3) 4), a (v (L TR) 5), a (v (L I) 9)] 205
        (.ite (nt (v B 205))
         (.ret [a (nl I), a (k false)])
         (.ret [a (v (L I) 9), a (k true)])))))))))
def tr_impl_Use : Tr := .call f_impl_InRange [a (v (L V3) 0), a (v (L TR) 1), a (v (L I) 2)] 100320
 (.ite (nt (v B 100320))
  (.ret [a (nl I), a (k false)])
  (.call f_impl_in [a (v I 3), a (c 0), a (sub (ln (v (L TR) 1)) (c 1))] 100832
   (.ite (nt (v B 100832))
    (.ret [a (nl I), a (k false)])
    (.call f_impl_use [a (v (L V3) 0), a (v (L TR) 1), a (v (L I) 2), a (v I 3)] 101216
     (.ret [a (v (L I) 101216), a (v B 101217)])))))
def tr_slices_Equal_Sint_int : Tr := .ite (ne (ln (v (L I) 0)) (ln (v (L I) 1)))
 (.ret [a (k false)])
 (.loop [a (v (L I) 0), a (v (L I) 1), a (ln (v (L I) 0)), a (c 0)]
  (.ite (lt (v I 3) (v I 2))
   (.guard (le (c 0) (v I 3))
    (.guard (lt (v I 3) (ln (v (L I) 0)))
     (.guard (le (c 0) (v I 3))
      (.guard (lt (v I 3) (ln (v (L I) 1)))
       (.ite (ne (ix (v (L I) 0) (v I 3)) (ix (v (L I) 1) (v I 3)))
        (.ret [a (k false)])
        (.jump 0 [a (v (L I) 0), a (v (L I) 1), a (v I 2), a (add (v I 3) (c 1))]))))))
   (.ret [a (k true)])))
def tr_impl_RulesCommute : Tr := .call f_impl_InRange [a (v (L V3) 0), a (v (L TR) 1), a (v (L I) 2)] 100256
 (.ite (nt (v B 100256))
  (.ret [a (k false)])
  (.call f_impl_in [a (v I 3), a (c 0), a (sub (ln (v (L TR) 1)) (c 1))] 100768
   (.ite (nt (v B 100768))
    (.ret [a (k false)])
    (.call f_impl_in [a (v I 4), a (c 0), a (sub (ln (v (L TR) 1)) (c 1))] 101344
     (.ite (nt (v B 101344))
      (.ret [a (k false)])
      (.call f_impl_use [a (v (L V3) 0), a (v (L TR) 1), a (v (L I) 2), a (v I 3)] 101728
       (.call f_impl_use [a (v (L V3) 0), a (v (L TR) 1), a (v (L I) 2), a (v I 4)] 102304
        (.ite (nt (v B 101729))
         (.ret [a (k false)])
         (.ite (nt (v B 102305))
          (.ret [a (k false)])
          (.call f_impl_use [a (v (L V3) 0), a (v (L TR) 1), a (v (L I) 101728), a (v I 4)] 103264
           (.call f_impl_use [a (v (L V3) 0), a (v (L TR) 1), a (v (L I) 102304), a (v I 3)] 103840
            (.ite (v B 103265)
             (.ite (v B 103841)
              (.call f_slices_Equal_Sint_int [a (v (L I) 103264), a (v (L I) 103840)] 104672
               (.ret [a (v B 104672)]))
              (.ret [a (k false)]))
             (.ret [a (k false)])))))))))))))
def tr_impl_wakersOf : Tr := .call f_impl_touchedBy [a (v (L V3) 0), a (v (L TR) 1), a (v I 2)] 100256
 (.loop [a (v I 2), a (v (L TR) 1), a (ln (v (L TR) 1)), a (c 0), a (v (L I) 100256), a (nl I)]
  (.ite (lt (v I 3) (v I 2))
   (.join
    (.guard (le (c 0) (v I 3))
     (.guard (lt (v I 3) (ln (v (L TR) 1)))
      (.ite (ne (v I 3) (v I 0))
       (.call f_impl_meets [a (f (s (ix (v (L TR) 1) (v I 3)))), a (v (L I) 4)] 904
        (.ite (v B 904)
         (.guard (le (ln (v (L I) 5)) (c 549755813888))
          (.guard (le (ln (one (v I 3))) (c 549755813888))
           (.jump 0 [a (v I 0), a (v (L TR) 1), a (v I 2), a (v I 3), a (v (L I) 4), a (app (v (L I) 5) (one (v I 3)))])))
         (.jump 0 [a (v I 0), a (v (L TR) 1), a (v I 2), a (v I 3), a (v (L I) 4), a (v (L I) 5)])))
       (.jump 0 [a (v I 0), a (v (L TR) 1), a (v I 2), a (v I 3), a (v (L I) 4), a (v (L I) 5)]))))
    (.jump 0 [a (v I 0), a (v (L TR) 1), a (v I 2), a (add (v I 3) (c 1)), a (v (L I) 4), a (v (L I) 5)]))
   (.call f_impl_clone_int [a (v (L I) 5)] 136
    (.ret [a (v (L I) 136)]))))
def tr_impl_WakersOf : Tr := .call f_impl_SystemValid [a (v (L V3) 0), a (v (L TR) 1)] 100192
 (.ite (nt (v B 100192))
  (.ret [a (nl I)])
  (.call f_impl_in [a (v I 2), a (c 0), a (sub (ln (v (L TR) 1)) (c 1))] 100704
   (.ite (nt (v B 100704))
    (.ret [a (nl I)])
    (.call f_impl_wakersOf [a (v (L V3) 0), a (v (L TR) 1), a (v I 2)] 101024
     (.ret [a (v (L I) 101024)])))))
def tr_laws_wcHas : Tr := .loop [a (v I 1), a (v (L I) 0), a (ln (v (L I) 0)), a (c 0)]
 (.ite (lt (v I 3) (v I 2))
  (.guard (le (c 0) (v I 3))
   (.guard (lt (v I 3) (ln (v (L I) 1)))
    (.ite (eq (ix (v (L I) 1) (v I 3)) (v I 0))
     (.ret [a (k true)])
     (.jump 0 [a (v I 0), a (v (L I) 1), a (v I 2), a (add (v I 3) (c 1))]))))
  (.ret [a (k false)]))
end Go.Proofs.YtlfinllnfggiiaaGreat
namespace Go.Proofs.YtlfinllnfggiiaaGreat
open Go Go.Sm Go.Sm.Q
def tr_laws_FnRulesApart : Tr := .ite (gt (ln (v (L U) 0)) (c 1048576))
 (.ret [a (k true)])
 (.call f_spec_DrawRulesApart [a (v (L U) 0)] 100320
  (.call f_impl_RulesApart [a (v (L V3) 100320), a (v (L TR) 100321), a (v I 100322), a (v I 100323)] 101088
   (.call f_spec_RulesApart [a (v (L V3) 100320), a (v (L TR) 100321), a (v I 100322), a (v I 100323)] 101472
    (.ite (.o2 .bne (v B 101088) (v B 101472))
     (.ret [a (k false)])
     (.call f_impl_SizeOf [a (v (L V3) 100320), a (v (L TR) 100321)] 101792
      (.call f_spec_SizeOf [a (v (L V3) 100320), a (v (L TR) 100321)] 101856
       (.ite (ne (v I 101792) (v I 101856))
        (.ret [a (k false)])
        (.join
         (.loop [a (v I 100322), a (v I 100323), a (v B 101088), a (c 0), a (v (L V3) 100320), a (v (L TR) 100321)]
          (.ite (v B 2)
           (.call f_impl_SizeOf [a (v (L V3) 4), a (v (L TR) 5)] 263
            (.ite (lt (v I 3) (v I 263))
             (.join
              (.call f_impl_StateAt [a (v (L V3) 4), a (v (L TR) 5), a (v I 3)] 583
               (.call f_impl_Use [a (v (L V3) 4), a (v (L TR) 5), a (v (L I) 583), a (v I 0)] 903
                (.call f_impl_Use [a (v (L V3) 4), a (v (L TR) 5), a (v (L I) 583), a (v I 1)] 1479
                 (.ite (v B 904)
                  (.ite (v B 1480)
                   (.call f_impl_RulesCommute [a (v (L V3) 4), a (v (L TR) 5), a (v (L I) 583), a (v I 0), a (v I 1)] 2439
                    (.ite (nt (v B 2439))
                     (.ret [a (k false)])
                     (.jump 0 [a (v I 0), a (v I 1), a (k true), a (v I 3), a (v (L V3) 4), a (v (L TR) 5)])))
                   (.jump 0 [a (v I 0), a (v I 1), a (k true), a (v I 3), a (v (L V3) 4), a (v (L TR) 5)]))
                  (.jump 0 [a (v I 0), a (v I 1), a (k true), a (v I 3), a (v (L V3) 4), a (v (L TR) 5)])))))
              (.jump 0 [a (v I 0), a (v I 1), a (v B 2), a (add (v I 3) (c 1)), a (v (L V3) 4), a (v (L TR) 5)]))
             (.jump 1 [a (v I 0), a (v I 1), a (k true), a (v (L V3) 4), a (v (L TR) 5)])))
           (.jump 1 [a (v I 0), a (v I 1), a (k false), a (v (L V3) 4), a (v (L TR) 5)])))
         (.ite (nt (v B 2))
          (.ret [a (k true)])
          (.call f_impl_WakersOf [a (v (L V3) 3), a (v (L TR) 4), a (v I 0)] 326
           (.call f_laws_wcHas [a (v (L I) 326), a (v I 1)] 454
            (.ite (nt (v B 454))
             (.call f_impl_WakersOf [a (v (L V3) 3), a (v (L TR) 4), a (v I 1)] 774
              (.call f_laws_wcHas [a (v (L I) 774), a (v I 0)] 902
               (.ite (nt (v B 902))
                (.call f_impl_RulesApart [a (v (L V3) 3), a (v (L TR) 4), a (v I 1), a (v I 0)] 1350
                 (.ret [a (v B 1350)]))
                (.ret [a (k false)]))))
             (.ret [a (k false)])))))))))))))
end Go.Proofs.YtlfinllnfggiiaaGreat
namespace Go.Proofs.YtlfinllnfggiiaaGreat
open Go Go.Sm Go.Sm.Q
set_option maxRecDepth 100000
def trL : List (Nat × Tr) := [
(f_spec_l40Open, tr_spec_l40Open),
(f_spec_l40Rd_pick, tr_spec_l40Rd_pick),
(f_spec_l40Rd_num, tr_spec_l40Rd_num),
(f_spec_l2VarOf, tr_spec_l2VarOf),
(f_spec_l2Const, tr_spec_l2Const),
(f_spec_l2Cond, tr_spec_l2Cond),
(f_spec_l1In, tr_spec_l1In),
(f_spec_l1One, tr_spec_l1One),
(f_spec_l1Kind, tr_spec_l1Kind),
(f_spec_KindsOf, tr_spec_KindsOf),
(f_spec_TermsValid, tr_spec_TermsValid),
(f_spec_l1Moved, tr_spec_l1Moved),
(f_spec_Joined, tr_spec_Joined),
(f_spec_l2When, tr_spec_l2When),
(f_spec_l1Number, tr_spec_l1Number),
(f_spec_l1Pick, tr_spec_l1Pick),
(f_spec_l1Terms, tr_spec_l1Terms),
(f_spec_l2Value, tr_spec_l2Value),
(f_spec_l2Rules, tr_spec_l2Rules),
(f_spec_l2System, tr_spec_l2System),
(f_spec_l2Any, tr_spec_l2Any),
(f_spec_Shifted, tr_spec_Shifted),
(f_spec_l26System, tr_spec_l26System),
(f_spec_l2Some, tr_spec_l2Some),
(f_spec_l26Two, tr_spec_l26Two),
(f_spec_DrawRulesApart, tr_spec_DrawRulesApart),
(f_impl_in, tr_impl_in),
(f_impl_varOk, tr_impl_varOk),
(f_impl_size, tr_impl_size),
(f_impl_parts, tr_impl_parts),
(f_impl_kindsOf, tr_impl_kindsOf),
(f_impl_kindOf, tr_impl_kindOf),
(f_impl_ruleOk, tr_impl_ruleOk),
(f_impl_SystemValid, tr_impl_SystemValid),
(f_slices_Index_Sint_int, tr_slices_Index_Sint_int),
(f_slices_Contains_Sint_int, tr_slices_Contains_Sint_int),
(f_impl_meets, tr_impl_meets),
(f_impl_clone_int, tr_impl_clone_int),
(f_impl_usedBy, tr_impl_usedBy),
(f_math_bits_Len32, tr_math_bits_Len32),
(f_math_bits_Len64, tr_math_bits_Len64),
(f_math_bits_Len, tr_math_bits_Len),
(f_cmp_isNaN_int, tr_cmp_isNaN_int),
(f_cmp_Less_int, tr_cmp_Less_int),
(f_slices_insertionSortOrdered_int, tr_slices_insertionSortOrdered_int),
(f_slices_siftDownOrdered_int, tr_slices_siftDownOrdered_int),
(f_slices_heapSortOrdered_int, tr_slices_heapSortOrdered_int),
(f_slices_nextPowerOfTwo, tr_slices_nextPowerOfTwo),
(f_slices_xorshift_Next, tr_slices_xorshift_Next),
(f_slices_breakPatternsOrdered_int, tr_slices_breakPatternsOrdered_int),
(f_slices_order2Ordered_int, tr_slices_order2Ordered_int),
(f_slices_medianOrdered_int, tr_slices_medianOrdered_int),
(f_slices_medianAdjacentOrdered_int, tr_slices_medianAdjacentOrdered_int),
(f_slices_choosePivotOrdered_int, tr_slices_choosePivotOrdered_int),
(f_slices_reverseRangeOrdered_int, tr_slices_reverseRangeOrdered_int),
(f_slices_partialInsertionSortOrdered_int, tr_slices_partialInsertionSortOrdered_int),
(f_slices_partitionEqualOrdered_int, tr_slices_partitionEqualOrdered_int),
(f_slices_partitionOrdered_int, tr_slices_partitionOrdered_int),
(f_slices_pdqsortOrdered_int, tr_slices_pdqsortOrdered_int),
(f_impl_touchedBy, tr_impl_touchedBy),
(f_impl_rulesApart, tr_impl_rulesApart),
(f_impl_RulesApart, tr_impl_RulesApart),
(f_spec_l2Var, tr_spec_l2Var),
(f_spec_l2Is, tr_spec_l2Is),
(f_spec_l2Rule, tr_spec_l2Rule),
(f_spec_SystemValid, tr_spec_SystemValid),
(f_spec_l1Needed, tr_spec_l1Needed),
(f_spec_UsedBy, tr_spec_UsedBy),
(f_spec_l2Has, tr_spec_l2Has),
(f_spec_TouchedBy, tr_spec_TouchedBy),
(f_spec_l26Meet, tr_spec_l26Meet),
(f_spec_l26Apart, tr_spec_l26Apart),
(f_spec_RulesApart, tr_spec_RulesApart),
(f_impl_SizeOf, tr_impl_SizeOf),
(f_spec_SizeOf, tr_spec_SizeOf),
(f_impl_stateAt, tr_impl_stateAt),
(f_impl_StateAt, tr_impl_StateAt),
(f_impl_inRange, tr_impl_inRange),
(f_impl_InRange, tr_impl_InRange),
(f_impl_held, tr_impl_held),
(f_impl_bit, tr_impl_bit),
(f_impl_do, tr_impl_do),
(f_impl_eval, tr_impl_eval),
(f_impl_use, tr_impl_use),
(f_impl_Use, tr_impl_Use),
(f_slices_Equal_Sint_int, tr_slices_Equal_Sint_int),
(f_impl_RulesCommute, tr_impl_RulesCommute),
(f_impl_wakersOf, tr_impl_wakersOf),
(f_impl_WakersOf, tr_impl_WakersOf),
(f_laws_wcHas, tr_laws_wcHas),
(f_laws_FnRulesApart, tr_laws_FnRulesApart)]
def haL : List Nat := []
def mc : Mc := ⟨fun f => (trL.find? (·.1 == f)).map (·.2), fun f ins => if haL.contains f then some ins else none⟩
theorem F_spec_l40Open : mc.F f_spec_l40Open = some tr_spec_l40Open := rfl
theorem F_spec_l40Rd_pick : mc.F f_spec_l40Rd_pick = some tr_spec_l40Rd_pick := rfl
theorem F_spec_l40Rd_num : mc.F f_spec_l40Rd_num = some tr_spec_l40Rd_num := rfl
theorem F_spec_l2VarOf : mc.F f_spec_l2VarOf = some tr_spec_l2VarOf := rfl
theorem F_spec_l2Const : mc.F f_spec_l2Const = some tr_spec_l2Const := rfl
theorem F_spec_l2Cond : mc.F f_spec_l2Cond = some tr_spec_l2Cond := rfl
theorem F_spec_l1In : mc.F f_spec_l1In = some tr_spec_l1In := rfl
theorem F_spec_l1One : mc.F f_spec_l1One = some tr_spec_l1One := rfl
theorem F_spec_l1Kind : mc.F f_spec_l1Kind = some tr_spec_l1Kind := rfl
theorem F_spec_KindsOf : mc.F f_spec_KindsOf = some tr_spec_KindsOf := rfl
theorem F_spec_TermsValid : mc.F f_spec_TermsValid = some tr_spec_TermsValid := rfl
theorem F_spec_l1Moved : mc.F f_spec_l1Moved = some tr_spec_l1Moved := rfl
theorem F_spec_Joined : mc.F f_spec_Joined = some tr_spec_Joined := rfl
theorem F_spec_l2When : mc.F f_spec_l2When = some tr_spec_l2When := rfl
theorem F_spec_l1Number : mc.F f_spec_l1Number = some tr_spec_l1Number := rfl
theorem F_spec_l1Pick : mc.F f_spec_l1Pick = some tr_spec_l1Pick := rfl
theorem F_spec_l1Terms : mc.F f_spec_l1Terms = some tr_spec_l1Terms := rfl
theorem F_spec_l2Value : mc.F f_spec_l2Value = some tr_spec_l2Value := rfl
theorem F_spec_l2Rules : mc.F f_spec_l2Rules = some tr_spec_l2Rules := rfl
theorem F_spec_l2System : mc.F f_spec_l2System = some tr_spec_l2System := rfl
theorem F_spec_l2Any : mc.F f_spec_l2Any = some tr_spec_l2Any := rfl
theorem F_spec_Shifted : mc.F f_spec_Shifted = some tr_spec_Shifted := rfl
theorem F_spec_l26System : mc.F f_spec_l26System = some tr_spec_l26System := rfl
theorem F_spec_l2Some : mc.F f_spec_l2Some = some tr_spec_l2Some := rfl
theorem F_spec_l26Two : mc.F f_spec_l26Two = some tr_spec_l26Two := rfl
theorem F_spec_DrawRulesApart : mc.F f_spec_DrawRulesApart = some tr_spec_DrawRulesApart := rfl
theorem F_impl_in : mc.F f_impl_in = some tr_impl_in := rfl
theorem F_impl_varOk : mc.F f_impl_varOk = some tr_impl_varOk := rfl
theorem F_impl_size : mc.F f_impl_size = some tr_impl_size := rfl
theorem F_impl_parts : mc.F f_impl_parts = some tr_impl_parts := rfl
theorem F_impl_kindsOf : mc.F f_impl_kindsOf = some tr_impl_kindsOf := rfl
theorem F_impl_kindOf : mc.F f_impl_kindOf = some tr_impl_kindOf := rfl
theorem F_impl_ruleOk : mc.F f_impl_ruleOk = some tr_impl_ruleOk := rfl
theorem F_impl_SystemValid : mc.F f_impl_SystemValid = some tr_impl_SystemValid := rfl
theorem F_slices_Index_Sint_int : mc.F f_slices_Index_Sint_int = some tr_slices_Index_Sint_int := rfl
theorem F_slices_Contains_Sint_int : mc.F f_slices_Contains_Sint_int = some tr_slices_Contains_Sint_int := rfl
theorem F_impl_meets : mc.F f_impl_meets = some tr_impl_meets := rfl
theorem F_impl_clone_int : mc.F f_impl_clone_int = some tr_impl_clone_int := rfl
theorem F_impl_usedBy : mc.F f_impl_usedBy = some tr_impl_usedBy := rfl
theorem F_math_bits_Len32 : mc.F f_math_bits_Len32 = some tr_math_bits_Len32 := rfl
theorem F_math_bits_Len64 : mc.F f_math_bits_Len64 = some tr_math_bits_Len64 := rfl
theorem F_math_bits_Len : mc.F f_math_bits_Len = some tr_math_bits_Len := rfl
theorem F_cmp_isNaN_int : mc.F f_cmp_isNaN_int = some tr_cmp_isNaN_int := rfl
theorem F_cmp_Less_int : mc.F f_cmp_Less_int = some tr_cmp_Less_int := rfl
theorem F_slices_insertionSortOrdered_int : mc.F f_slices_insertionSortOrdered_int = some tr_slices_insertionSortOrdered_int := rfl
theorem F_slices_siftDownOrdered_int : mc.F f_slices_siftDownOrdered_int = some tr_slices_siftDownOrdered_int := rfl
theorem F_slices_heapSortOrdered_int : mc.F f_slices_heapSortOrdered_int = some tr_slices_heapSortOrdered_int := rfl
theorem F_slices_nextPowerOfTwo : mc.F f_slices_nextPowerOfTwo = some tr_slices_nextPowerOfTwo := rfl
theorem F_slices_xorshift_Next : mc.F f_slices_xorshift_Next = some tr_slices_xorshift_Next := rfl
theorem F_slices_breakPatternsOrdered_int : mc.F f_slices_breakPatternsOrdered_int = some tr_slices_breakPatternsOrdered_int := rfl
theorem F_slices_order2Ordered_int : mc.F f_slices_order2Ordered_int = some tr_slices_order2Ordered_int := rfl
theorem F_slices_medianOrdered_int : mc.F f_slices_medianOrdered_int = some tr_slices_medianOrdered_int := rfl
theorem F_slices_medianAdjacentOrdered_int : mc.F f_slices_medianAdjacentOrdered_int = some tr_slices_medianAdjacentOrdered_int := rfl
theorem F_slices_choosePivotOrdered_int : mc.F f_slices_choosePivotOrdered_int = some tr_slices_choosePivotOrdered_int := rfl
theorem F_slices_reverseRangeOrdered_int : mc.F f_slices_reverseRangeOrdered_int = some tr_slices_reverseRangeOrdered_int := rfl
theorem F_slices_partialInsertionSortOrdered_int : mc.F f_slices_partialInsertionSortOrdered_int = some tr_slices_partialInsertionSortOrdered_int := rfl
theorem F_slices_partitionEqualOrdered_int : mc.F f_slices_partitionEqualOrdered_int = some tr_slices_partitionEqualOrdered_int := rfl
theorem F_slices_partitionOrdered_int : mc.F f_slices_partitionOrdered_int = some tr_slices_partitionOrdered_int := rfl
theorem F_slices_pdqsortOrdered_int : mc.F f_slices_pdqsortOrdered_int = some tr_slices_pdqsortOrdered_int := rfl
theorem F_impl_touchedBy : mc.F f_impl_touchedBy = some tr_impl_touchedBy := rfl
theorem F_impl_rulesApart : mc.F f_impl_rulesApart = some tr_impl_rulesApart := rfl
theorem F_impl_RulesApart : mc.F f_impl_RulesApart = some tr_impl_RulesApart := rfl
theorem F_spec_l2Var : mc.F f_spec_l2Var = some tr_spec_l2Var := rfl
theorem F_spec_l2Is : mc.F f_spec_l2Is = some tr_spec_l2Is := rfl
theorem F_spec_l2Rule : mc.F f_spec_l2Rule = some tr_spec_l2Rule := rfl
theorem F_spec_SystemValid : mc.F f_spec_SystemValid = some tr_spec_SystemValid := rfl
theorem F_spec_l1Needed : mc.F f_spec_l1Needed = some tr_spec_l1Needed := rfl
theorem F_spec_UsedBy : mc.F f_spec_UsedBy = some tr_spec_UsedBy := rfl
theorem F_spec_l2Has : mc.F f_spec_l2Has = some tr_spec_l2Has := rfl
theorem F_spec_TouchedBy : mc.F f_spec_TouchedBy = some tr_spec_TouchedBy := rfl
theorem F_spec_l26Meet : mc.F f_spec_l26Meet = some tr_spec_l26Meet := rfl
theorem F_spec_l26Apart : mc.F f_spec_l26Apart = some tr_spec_l26Apart := rfl
theorem F_spec_RulesApart : mc.F f_spec_RulesApart = some tr_spec_RulesApart := rfl
theorem F_impl_SizeOf : mc.F f_impl_SizeOf = some tr_impl_SizeOf := rfl
theorem F_spec_SizeOf : mc.F f_spec_SizeOf = some tr_spec_SizeOf := rfl
theorem F_impl_stateAt : mc.F f_impl_stateAt = some tr_impl_stateAt := rfl
theorem F_impl_StateAt : mc.F f_impl_StateAt = some tr_impl_StateAt := rfl
theorem F_impl_inRange : mc.F f_impl_inRange = some tr_impl_inRange := rfl
theorem F_impl_InRange : mc.F f_impl_InRange = some tr_impl_InRange := rfl
theorem F_impl_held : mc.F f_impl_held = some tr_impl_held := rfl
theorem F_impl_bit : mc.F f_impl_bit = some tr_impl_bit := rfl
theorem F_impl_do : mc.F f_impl_do = some tr_impl_do := rfl
theorem F_impl_eval : mc.F f_impl_eval = some tr_impl_eval := rfl
theorem F_impl_use : mc.F f_impl_use = some tr_impl_use := rfl
theorem F_impl_Use : mc.F f_impl_Use = some tr_impl_Use := rfl
theorem F_slices_Equal_Sint_int : mc.F f_slices_Equal_Sint_int = some tr_slices_Equal_Sint_int := rfl
theorem F_impl_RulesCommute : mc.F f_impl_RulesCommute = some tr_impl_RulesCommute := rfl
theorem F_impl_wakersOf : mc.F f_impl_wakersOf = some tr_impl_wakersOf := rfl
theorem F_impl_WakersOf : mc.F f_impl_WakersOf = some tr_impl_WakersOf := rfl
theorem F_laws_wcHas : mc.F f_laws_wcHas = some tr_laws_wcHas := rfl
theorem F_laws_FnRulesApart : mc.F f_laws_FnRulesApart = some tr_laws_FnRulesApart := rfl
end Go.Proofs.YtlfinllnfggiiaaGreat
