/- What the functions of the law come to, as trees; printed by a program; no condition. -/
import Derived.Test.YtboikipchhgdlaaGreatSmLib4
namespace Go.Proofs.YtboikipchhgdlaaGreat
open Go Go.Sm Go.Sm.Q
abbrev f_spec_l1In : Nat := 59
abbrev f_spec_l2Var : Nat := 99
abbrev f_spec_l1One : Nat := 148
abbrev f_spec_l1Kind : Nat := 145
abbrev f_spec_KindsOf : Nat := 132
abbrev f_spec_l2Is : Nat := 123
abbrev f_spec_l2Rule : Nat := 100
abbrev f_spec_SystemValid : Nat := 55
abbrev f_spec_l6Many : Nat := 101
abbrev f_spec_l6Widths : Nat := 57
abbrev f_spec_l6Sum : Nat := 56
abbrev f_spec_l10Wide : Nat := 29
abbrev f_spec_SizeOf : Nat := 58
abbrev f_spec_FirstState : Nat := 108
abbrev f_spec_l3Copy : Nat := 107
abbrev f_spec_l4State : Nat := 74
abbrev f_spec_l1Held : Nat := 153
abbrev f_spec_l1Truth : Nat := 154
abbrev f_spec_l1Do : Nat := 152
abbrev f_spec_l1Values : Nat := 146
abbrev f_spec_l2Last : Nat := 133
abbrev f_spec_l2In : Nat := 134
abbrev f_spec_l2Use : Nat := 124
abbrev f_spec_l2Same : Nat := 135
abbrev f_spec_l2Less : Nat := 136
abbrev f_spec_l2Put : Nat := 125
abbrev f_spec_l2Next : Nat := 102
abbrev f_spec_l4Number : Nat := 103
abbrev f_spec_l4Steps : Nat := 62
abbrev f_spec_l6Value : Nat := 106
abbrev f_spec_l6State : Nat := 73
abbrev f_spec_l10Both : Nat := 72
abbrev f_spec_l10Steps : Nat := 38
abbrev f_spec_l6Number : Nat := 70
abbrev f_spec_l8Add : Nat := 105
abbrev f_spec_l8Rows : Nat := 71
abbrev f_spec_l10Of : Nat := 37
abbrev f_spec_StepDiagram : Nat := 20
abbrev f_spec_l8Var : Nat := 109
abbrev f_spec_l8Fork : Nat := 75
abbrev f_spec_DiagramValid : Nat := 39
abbrev f_spec_l8Place : Nat := 40
abbrev f_spec_l8Count : Nat := 41
abbrev f_spec_DiagramCount : Nat := 21
abbrev f_spec_StepsCount : Nat := 6
abbrev f_impl_in : Nat := 79
abbrev f_impl_varOk : Nat := 82
abbrev f_impl_size : Nat := 46
abbrev f_impl_parts : Nat := 137
abbrev f_impl_kindsOf : Nat := 126
abbrev f_impl_kindOf : Nat := 113
abbrev f_impl_ruleOk : Nat := 85
abbrev f_impl_SystemValid : Nat := 44
abbrev f_impl_bitsFor : Nat := 114
abbrev f_impl_clone_int : Nat := 104
abbrev f_impl_bitsOf : Nat := 86
abbrev f_impl_bitCount : Nat := 45
abbrev f_impl_halfNarrow : Nat := 24
abbrev f_impl_stateAt : Nat := 48
abbrev f_impl_held : Nat := 138
abbrev f_impl_bit : Nat := 139
abbrev f_impl_do : Nat := 127
abbrev f_impl_eval : Nat := 115
abbrev f_impl_inRange : Nat := 116
abbrev f_impl_use : Nat := 87
abbrev f_cmp_isNaN_int : Nat := 128
abbrev f_cmp_Compare_int : Nat := 117
abbrev f_slices_Compare_Sint_int : Nat := 89
abbrev f_slices_Reverse_SSint_Sint : Nat := 140
abbrev f_impl_clone_Sint : Nat := 91
abbrev f_impl_nextStates : Nat := 47
abbrev f_impl_number : Nat := 49
abbrev f_impl_nexts : Nat := 25
abbrev f_impl_StepsCount : Nat := 8
abbrev f_spec_l40Open : Nat := 52
abbrev f_spec_l40Rd_pick : Nat := 96
abbrev f_spec_l40Rd_num : Nat := 98
abbrev f_spec_l2VarOf : Nat := 143
abbrev f_spec_l2Const : Nat := 121
abbrev f_spec_l2Cond : Nat := 141
abbrev f_spec_TermsValid : Nat := 147
abbrev f_spec_l1Moved : Nat := 149
abbrev f_spec_Joined : Nat := 142
abbrev f_spec_l2When : Nat := 130
abbrev f_spec_l1Number : Nat := 150
abbrev f_spec_l1Pick : Nat := 151
abbrev f_spec_l1Terms : Nat := 144
abbrev f_spec_l2Value : Nat := 131
abbrev f_spec_l2Rules : Nat := 122
abbrev f_spec_l2System : Nat := 97
abbrev f_spec_l2Any : Nat := 95
abbrev f_spec_l10System : Nat := 53
abbrev f_spec_l4Some : Nat := 54
abbrev f_spec_DrawSetDiagram : Nat := 28
abbrev f_spec_DrawImageBy : Nat := 10
abbrev f_impl_setOk : Nat := 65
abbrev f_impl_SetValid : Nat := 33
abbrev f_impl_listOf : Nat := 66
abbrev f_impl_over : Nat := 34
abbrev f_impl_NextNumbers : Nat := 16
abbrev f_impl_ImageBy : Nat := 11
abbrev f_impl_pasts : Nat := 35
abbrev f_impl_PastNumbers : Nat := 17
abbrev f_impl_PastBy : Nat := 12
abbrev f_spec_SetValid : Nat := 30
abbrev f_spec_l4Marks : Nat := 63
abbrev f_spec_l4Behind : Nat := 61
abbrev f_spec_l4List : Nat := 60
abbrev f_spec_NextNumbers : Nat := 31
abbrev f_spec_ImageBy : Nat := 14
abbrev f_laws_wcInts : Nat := 13
abbrev f_spec_l4Ahead : Nat := 64
abbrev f_spec_PastNumbers : Nat := 32
abbrev f_spec_PastBy : Nat := 15
abbrev f_laws_FnImageBy : Nat := 4
abbrev f_slices_Insert_SSint_Sint : Nat := 90
def tr_spec_l1In : Tr := .ite (ge (v I 0) (v I 1))
 (.ret [a (le (v I 0) (v I 2))])
 (.ret [a (k false)])
def tr_spec_l2Var : Tr := .call f_spec_l1In [a (v I 0), a (c (-9999)), a (c 9999)] 100256
 (.ite (v B 100256)
  (.call f_spec_l1In [a (v I 1), a (v I 0), a (c 9999)] 100640
   (.ite (v B 100640)
    (.ite (lt (sub (v I 1) (v I 0)) (c 20))
     (.call f_spec_l1In [a (v I 2), a (v I 0), a (v I 1)] 101728
      (.ret [a (v B 101728)]))
     (.ret [a (k false)]))
    (.ret [a (k false)])))
  (.ret [a (k false)]))
def tr_spec_l1One : Tr := .ret [a (eq (v I 0) (c 7))]
def tr_spec_l1Kind : Tr := .join
 (.ite (eq (v I 0) (c 0))
  (.call f_spec_l1In [a (v I 1), a (c (-9999)), a (c 9999)] 100512
   (.ite (v B 100512)
    (.ite (eq (v I 2) (c 0))
     (.ite (eq (v I 3) (c 0))
      (.ret [a (c 1)])
      (.jump 0 [a (v (L I) 4), a (v I 5), a (v I 0), a (v I 1), a (v I 2), a (v I 3)]))
     (.jump 0 [a (v (L I) 4), a (v I 5), a (v I 0), a (v I 1), a (v I 2), a (v I 3)]))
    (.jump 0 [a (v (L I) 4), a (v I 5), a (v I 0), a (v I 1), a (v I 2), a (v I 3)])))
  (.jump 0 [a (v (L I) 4), a (v I 5), a (v I 0), a (v I 1), a (v I 2), a (v I 3)]))
 (.join
  (.ite (eq (v I 2) (c 1))
   (.call f_spec_l1In [a (v I 3), a (c 0), a (sub (v I 1) (c 1))] 519
    (.ite (v B 519)
     (.ite (eq (v I 4) (c 0))
      (.ite (eq (v I 5) (c 0))
       (.ret [a (c 1)])
       (.jump 0 [a (v (L I) 0), a (v I 2), a (v I 3), a (v I 4), a (v I 5)]))
      (.jump 0 [a (v (L I) 0), a (v I 2), a (v I 3), a (v I 4), a (v I 5)]))
     (.jump 0 [a (v (L I) 0), a (v I 2), a (v I 3), a (v I 4), a (v I 5)])))
   (.jump 0 [a (v (L I) 0), a (v I 2), a (v I 3), a (v I 4), a (v I 5)]))
  (.call f_spec_l1In [a (v I 1), a (c 2), a (c 9)] 134
   (.ite (nt (v B 134))
    (.ret [a (c 0)])
    (.ite (ne (v I 2) (c 0))
     (.ret [a (c 0)])
     (.call f_spec_l1In [a (v I 3), a (c 0), a (sub (ln (v (L I) 0)) (c 1))] 966
      (.ite (nt (v B 966))
       (.ret [a (c 0)])
       (.call f_spec_l1In [a (v I 4), a (c 0), a (sub (ln (v (L I) 0)) (c 1))] 1542
        (.ite (nt (v B 1542))
         (.ret [a (c 0)])
         (.join
          (.ite (ge (v I 1) (c 7))
           (.jump 0 [a (v (L I) 0), a (c 2), a (v I 1), a (v I 2), a (v I 3), a (v I 4)])
           (.jump 0 [a (v (L I) 0), a (c 1), a (v I 1), a (v I 2), a (v I 3), a (v I 4)]))
          (.join
           (.guard (le (c 0) (v I 4))
            (.guard (lt (v I 4) (ln (v (L I) 0)))
             (.ite (ne (ix (v (L I) 0) (v I 4)) (v I 1))
              (.ret [a (c 0)])
              (.guard (le (c 0) (v I 5))
               (.guard (lt (v I 5) (ln (v (L I) 0)))
                (.ite (ne (ix (v (L I) 0) (v I 5)) (v I 1))
                 (.ret [a (c 0)])
                 (.call f_spec_l1One [a (v I 2)] 1223
                  (.ite (v B 1223)
                   (.ite (ne (v I 5) (v I 4))
                    (.ret [a (c 0)])
                    (.jump 0 [a (v I 2), a (v I 3), a (v I 4), a (v I 5)]))
                   (.jump 0 [a (v I 2), a (v I 3), a (v I 4), a (v I 5)])))))))))
           (.ite (ge (v I 0) (c 5))
            (.ret [a (c 2)])
            (.ret [a (c 1)]))))))))))))
def tr_spec_KindsOf : Tr := .call f_spec_l1In [a (v I 1), a (c 0), a (c 5)] 100128
 (.ite (nt (v B 100128))
  (.ret [a (nl I)])
  (.call f_spec_l1In [a (ln (v (L T4) 0)), a (c 1), a (c 40)] 100448
   (.ite (nt (v B 100448))
    (.ret [a (nl I)])
    (.loop [a (v (L T4) 0), a (v I 1), a (c 0), a (nl I)]
     (.ite (lt (v I 2) (ln (v (L T4) 0)))
      (.guard (le (c 0) (v I 2))
       (.guard (lt (v I 2) (ln (v (L T4) 0)))
        (.call f_spec_l1Kind [a (f (ix (v (L T4) 0) (v I 2))), a (f (s (ix (v (L T4) 0) (v I 2)))), a (f (s (s (ix (v (L T4) 0) (v I 2))))), a (s (s (s (ix (v (L T4) 0) (v I 2))))), a (v (L I) 3), a (v I 1)] 645
         (.ite (eq (v I 645) (c 0))
          (.ret [a (nl I)])
          (.guard (le (ln (v (L I) 3)) (c 549755813888))
           (.guard (le (ln (one (v I 645))) (c 549755813888))
            (.jump 0 [a (v (L T4) 0), a (v I 1), a (add (v I 2) (c 1)), a (app (v (L I) 3) (one (v I 645)))])))))))
      (.ret [a (v (L I) 3)]))))))
def tr_spec_l2Is : Tr := .call f_spec_KindsOf [a (v (L T4) 0), a (v I 1)] 100192
 (.ite (gt (ln (v (L I) 100192)) (c 0))
  (.guard (le (c 0) (sub (ln (v (L I) 100192)) (c 1)))
   (.guard (lt (sub (ln (v (L I) 100192)) (c 1)) (ln (v (L I) 100192)))
    (.ret [a (eq (ix (v (L I) 100192) (sub (ln (v (L I) 100192)) (c 1))) (v I 2))])))
  (.ret [a (k false)]))
def tr_spec_l2Rule : Tr := .call f_spec_l2Is [a (v (L T4) 0), a (v I 3), a (c 2)] 100320
 (.ite (nt (v B 100320))
  (.ret [a (k false)])
  (.ite (ne (ln (v (L I) 1)) (ln (v (L (L T4)) 2)))
   (.ret [a (k false)])
   (.ite (gt (ln (v (L I) 1)) (v I 3))
    (.ret [a (k false)])
    (.loop [a (v I 3), a (c 0), a (v (L T4) 0), a (v (L I) 1), a (v (L (L T4)) 2)]
     (.ite (lt (v I 1) (ln (v (L I) 3)))
      (.join
       (.guard (le (c 0) (v I 1))
        (.guard (lt (v I 1) (ln (v (L I) 3)))
         (.call f_spec_l1In [a (ix (v (L I) 3) (v I 1)), a (c 0), a (sub (v I 0) (c 1))] 774
          (.ite (nt (v B 774))
           (.ret [a (k false)])
           (.ite (gt (v I 1) (c 0))
            (.guard (le (c 0) (v I 1))
             (.guard (lt (v I 1) (ln (v (L I) 3)))
              (.guard (le (c 0) (sub (v I 1) (c 1)))
               (.guard (lt (sub (v I 1) (c 1)) (ln (v (L I) 3)))
                (.ite (le (ix (v (L I) 3) (v I 1)) (ix (v (L I) 3) (sub (v I 1) (c 1))))
                 (.ret [a (k false)])
                 (.guard (le (c 0) (v I 1))
                  (.guard (lt (v I 1) (ln (v (L (L T4)) 4)))
                   (.call f_spec_l2Is [a (ix (v (L (L T4)) 4) (v I 1)), a (v I 0), a (c 1)] 2502
                    (.ite (nt (v B 2502))
                     (.ret [a (k false)])
                     (.jump 0 [a (v I 0), a (v I 1), a (v (L T4) 2), a (v (L I) 3), a (v (L (L T4)) 4)]))))))))))
            (.guard (le (c 0) (v I 1))
             (.guard (lt (v I 1) (ln (v (L (L T4)) 4)))
              (.call f_spec_l2Is [a (ix (v (L (L T4)) 4) (v I 1)), a (v I 0), a (c 1)] 2502
               (.ite (nt (v B 2502))
                (.ret [a (k false)])
                (.jump 0 [a (v I 0), a (v I 1), a (v (L T4) 2), a (v (L I) 3), a (v (L (L T4)) 4)]))))))))))
       (.jump 0 [a (v I 0), a (add (v I 1) (c 1)), a (v (L T4) 2), a (v (L I) 3), a (v (L (L T4)) 4)]))
      (.ret [a (k true)]))))))
def tr_spec_SystemValid : Tr := .call f_spec_l1In [a (ln (v (L V3) 0)), a (c 1), a (c 5)] 100320
 (.ite (nt (v B 100320))
  (.ret [a (k false)])
  (.ite (gt (ln (v (L TR) 1)) (c 8))
   (.ret [a (k false)])
   (.loop [a (c 1), a (c 0), a (v (L V3) 0), a (v (L TR) 1)]
    (.ite (lt (v I 1) (ln (v (L V3) 2)))
     (.guard (le (c 0) (v I 1))
      (.guard (lt (v I 1) (ln (v (L V3) 2)))
       (.call f_spec_l2Var [a (f (ix (v (L V3) 2) (v I 1))), a (f (s (ix (v (L V3) 2) (v I 1)))), a (s (s (ix (v (L V3) 2) (v I 1))))] 645
        (.ite (nt (v B 645))
         (.ret [a (k false)])
         (.guard (le (c 0) (v I 1))
          (.guard (lt (v I 1) (ln (v (L V3) 2)))
           (.guard (le (c 0) (v I 1))
            (.guard (lt (v I 1) (ln (v (L V3) 2)))
             (.jump 0 [a (mul (v I 0) (add (sub (f (s (ix (v (L V3) 2) (v I 1)))) (f (ix (v (L V3) 2) (v I 1)))) (c 1))), a (add (v I 1) (c 1)), a (v (L V3) 2), a (v (L TR) 3)])))))))))
     (.loop [a (v I 0), a (c 0), a (v (L V3) 2), a (v (L TR) 3)]
      (.ite (lt (v I 1) (ln (v (L TR) 3)))
       (.guard (le (c 0) (v I 1))
        (.guard (lt (v I 1) (ln (v (L TR) 3)))
         (.call f_spec_l2Rule [a (f (ix (v (L TR) 3) (v I 1))), a (f (s (ix (v (L TR) 3) (v I 1)))), a (s (s (ix (v (L TR) 3) (v I 1)))), a (ln (v (L V3) 2))] 837
          (.ite (nt (v B 837))
           (.ret [a (k false)])
           (.jump 0 [a (v I 0), a (add (v I 1) (c 1)), a (v (L V3) 2), a (v (L TR) 3)])))))
       (.ret [a (le (v I 0) (c 400))])))))))
def tr_spec_l6Many : Tr := .loop [a (v I 0), a (c 0), a (c 1)]
 (.ite (lt (v I 2) (v I 0))
  (.jump 0 [a (v I 0), a (add (v I 1) (c 1)), a (mul (v I 2) (c 2))])
  (.ret [a (v I 1)]))
def tr_spec_l6Widths : Tr := .loop [a (c 0), a (v (L V3) 0), a (v (L TR) 1), a (nl I)]
 (.ite (lt (v I 0) (ln (v (L V3) 1)))
  (.guard (le (c 0) (v I 0))
   (.guard (lt (v I 0) (ln (v (L V3) 1)))
    (.guard (le (c 0) (v I 0))
     (.guard (lt (v I 0) (ln (v (L V3) 1)))
      (.call f_spec_l6Many [a (add (sub (f (s (ix (v (L V3) 1) (v I 0)))) (f (ix (v (L V3) 1) (v I 0)))) (c 1))] 1286
       (.guard (le (ln (v (L I) 3)) (c 549755813888))
        (.guard (le (ln (one (v I 1286))) (c 549755813888))
         (.jump 0 [a (add (v I 0) (c 1)), a (v (L V3) 1), a (v (L TR) 2), a (app (v (L I) 3) (one (v I 1286)))]))))))))
  (.ret [a (v (L I) 3)]))
def tr_spec_l6Sum : Tr := .loop [a (v (L I) 0), a (c 0), a (c 0)]
 (.ite (lt (v I 2) (ln (v (L I) 0)))
  (.guard (le (c 0) (v I 2))
   (.guard (lt (v I 2) (ln (v (L I) 0)))
    (.jump 0 [a (v (L I) 0), a (add (v I 1) (ix (v (L I) 0) (v I 2))), a (add (v I 2) (c 1))])))
  (.ret [a (v I 1)]))
def tr_spec_l10Wide : Tr := .call f_spec_SystemValid [a (v (L V3) 0), a (v (L TR) 1)] 100192
 (.ite (nt (v B 100192))
  (.ret [a (c (-1))])
  (.call f_spec_l6Widths [a (v (L V3) 0), a (v (L TR) 1)] 100384
   (.call f_spec_l6Sum [a (v (L I) 100384)] 100448
    (.ite (gt (mul (c 2) (v I 100448)) (c 12))
     (.ret [a (c (-1))])
     (.ret [a (v I 100448)])))))
def tr_spec_SizeOf : Tr := .call f_spec_SystemValid [a (v (L V3) 0), a (v (L TR) 1)] 100192
 (.ite (nt (v B 100192))
  (.ret [a (c 0)])
  (.loop [a (c 1), a (c 0), a (v (L V3) 0), a (v (L TR) 1)]
   (.ite (lt (v I 1) (ln (v (L V3) 2)))
    (.guard (le (c 0) (v I 1))
     (.guard (lt (v I 1) (ln (v (L V3) 2)))
      (.guard (le (c 0) (v I 1))
       (.guard (lt (v I 1) (ln (v (L V3) 2)))
        (.jump 0 [a (mul (v I 0) (add (sub (f (s (ix (v (L V3) 2) (v I 1)))) (f (ix (v (L V3) 2) (v I 1)))) (c 1))), a (add (v I 1) (c 1)), a (v (L V3) 2), a (v (L TR) 3)])))))
    (.ret [a (v I 0)]))))
def tr_spec_FirstState : Tr := .join
 (.loop [a (c 0), a (v (L V3) 0), a (v (L TR) 1), a (nl I)]
  (.ite (lt (v I 0) (ln (v (L V3) 1)))
   (.call f_spec_SystemValid [a (v (L V3) 1), a (v (L TR) 2)] 454
    (.ite (v B 454)
     (.guard (le (c 0) (v I 0))
      (.guard (lt (v I 0) (ln (v (L V3) 1)))
       (.guard (le (ln (v (L I) 3)) (c 549755813888))
        (.guard (le (ln (one (s (s (ix (v (L V3) 1) (v I 0)))))) (c 549755813888))
         (.jump 0 [a (add (v I 0) (c 1)), a (v (L V3) 1), a (v (L TR) 2), a (app (v (L I) 3) (one (s (s (ix (v (L V3) 1) (v I 0))))))])))))
     (.jump 1 [a (v (L I) 3)])))
   (.jump 1 [a (v (L I) 3)])))
 (.ret [a (v (L I) 0)])
def tr_spec_l3Copy : Tr := .loop [a (v (L I) 0), a (c 0), a (nl I)]
 (.ite (lt (v I 1) (ln (v (L I) 0)))
  (.guard (le (c 0) (v I 1))
   (.guard (lt (v I 1) (ln (v (L I) 0)))
    (.guard (le (ln (v (L I) 2)) (c 549755813888))
     (.guard (le (ln (one (ix (v (L I) 0) (v I 1)))) (c 549755813888))
      (.jump 0 [a (v (L I) 0), a (add (v I 1) (c 1)), a (app (v (L I) 2) (one (ix (v (L I) 0) (v I 1))))])))))
  (.ret [a (v (L I) 2)]))
def tr_spec_l4State : Tr := .call f_spec_FirstState [a (v (L V3) 0), a (v (L TR) 1)] 100192
 (.call f_spec_l3Copy [a (v (L I) 100192)] 100256
  (.loop [a (v I 2), a (sub (ln (v (L V3) 0)) (c 1)), a (v (L V3) 0), a (v (L TR) 1), a (v (L I) 100256)]
   (.ite (ge (v I 1) (c 0))
    (.guard (le (c 0) (v I 1))
     (.guard (lt (v I 1) (ln (v (L V3) 2)))
      (.guard (le (c 0) (v I 1))
       (.guard (lt (v I 1) (ln (v (L V3) 2)))
        (.guard (le (c 0) (v I 1))
         (.guard (lt (v I 1) (ln (v (L V3) 2)))
          (.guard (ne (add (sub (f (s (ix (v (L V3) 2) (v I 1)))) (f (ix (v (L V3) 2) (v I 1)))) (c 1)) (c 0))
           (.guard (le (c 0) (v I 1))
            (.guard (lt (v I 1) (ln (v (L I) 4)))
             (.guard (ne (add (sub (f (s (ix (v (L V3) 2) (v I 1)))) (f (ix (v (L V3) 2) (v I 1)))) (c 1)) (c 0))
              (.jump 0 [a (quo (v I 0) (add (sub (f (s (ix (v (L V3) 2) (v I 1)))) (f (ix (v (L V3) 2) (v I 1)))) (c 1))), a (sub (v I 1) (c 1)), a (v (L V3) 2), a (v (L TR) 3), a (st (v (L I) 4) (v I 1) (add (f (ix (v (L V3) 2) (v I 1))) (rem (v I 0) (add (sub (f (s (ix (v (L V3) 2) (v I 1)))) (f (ix (v (L V3) 2) (v I 1)))) (c 1)))))])))))))))))
    (.ret [a (v (L I) 4)]))))
def tr_spec_l1Held : Tr := .ite (gt (v I 0) (c 9999))
 (.ret [a (c 9999)])
 (.ite (lt (v I 0) (c (-9999)))
  (.ret [a (c (-9999))])
  (.ret [a (v I 0)]))
def tr_spec_l1Truth : Tr := .ite (v B 0)
 (.ret [a (c 1)])
 (.ret [a (c 0)])
def tr_spec_l1Do : Tr := .ite (eq (v I 0) (c 2))
 (.call f_spec_l1Held [a (add (v I 1) (v I 2))] 100384
  (.ret [a (v I 100384)]))
 (.ite (eq (v I 0) (c 3))
  (.call f_spec_l1Held [a (sub (v I 1) (v I 2))] 100512
   (.ret [a (v I 100512)]))
  (.ite (eq (v I 0) (c 4))
   (.call f_spec_l1Held [a (mul (v I 1) (v I 2))] 100640
    (.ret [a (v I 100640)]))
   (.ite (eq (v I 0) (c 5))
    (.call f_spec_l1Truth [a (lt (v I 1) (v I 2))] 100768
     (.ret [a (v I 100768)]))
    (.ite (eq (v I 0) (c 6))
     (.call f_spec_l1Truth [a (eq (v I 1) (v I 2))] 100896
      (.ret [a (v I 100896)]))
     (.ite (eq (v I 0) (c 7))
      (.ret [a (sub (c 1) (v I 1))])
      (.ite (eq (v I 0) (c 8))
       (.ret [a (mul (v I 1) (v I 2))])
       (.call f_spec_l1Truth [a (gt (add (v I 1) (v I 2)) (c 0))] 101216
        (.ret [a (v I 101216)]))))))))
def tr_spec_l1Values : Tr := .loop [a (v (L T4) 0), a (v (L I) 1), a (c 0), a (nl I)]
 (.ite (lt (v I 2) (ln (v (L T4) 0)))
  (.join
   (.guard (le (c 0) (v I 2))
    (.guard (lt (v I 2) (ln (v (L T4) 0)))
     (.ite (eq (f (ix (v (L T4) 0) (v I 2))) (c 0))
      (.guard (le (ln (v (L I) 3)) (c 549755813888))
       (.guard (le (ln (one (f (s (ix (v (L T4) 0) (v I 2)))))) (c 549755813888))
        (.jump 0 [a (v (L T4) 0), a (v (L I) 1), a (v I 2), a (app (v (L I) 3) (one (f (s (ix (v (L T4) 0) (v I 2))))))])))
      (.ite (eq (f (ix (v (L T4) 0) (v I 2))) (c 1))
       (.guard (le (c 0) (f (s (ix (v (L T4) 0) (v I 2)))))
        (.guard (lt (f (s (ix (v (L T4) 0) (v I 2)))) (ln (v (L I) 1)))
         (.guard (le (ln (v (L I) 3)) (c 549755813888))
          (.guard (le (ln (one (ix (v (L I) 1) (f (s (ix (v (L T4) 0) (v I 2))))))) (c 549755813888))
           (.jump 0 [a (v (L T4) 0), a (v (L I) 1), a (v I 2), a (app (v (L I) 3) (one (ix (v (L I) 1) (f (s (ix (v (L T4) 0) (v I 2)))))))])))))
       (.guard (le (c 0) (f (s (s (ix (v (L T4) 0) (v I 2))))))
        (.guard (lt (f (s (s (ix (v (L T4) 0) (v I 2))))) (ln (v (L I) 3)))
         (.guard (le (c 0) (s (s (s (ix (v (L T4) 0) (v I 2))))))
          (.guard (lt (s (s (s (ix (v (L T4) 0) (v I 2))))) (ln (v (L I) 3)))
           (.call f_spec_l1Do [a (f (ix (v (L T4) 0) (v I 2))), a (ix (v (L I) 3) (f (s (s (ix (v (L T4) 0) (v I 2)))))), a (ix (v (L I) 3) (s (s (s (ix (v (L T4) 0) (v I 2))))))] 1861
            (.guard (le (ln (v (L I) 3)) (c 549755813888))
             (.guard (le (ln (one (v I 1861))) (c 549755813888))
              (.jump 0 [a (v (L T4) 0), a (v (L I) 1), a (v I 2), a (app (v (L I) 3) (one (v I 1861)))]))))))))))))
   (.jump 0 [a (v (L T4) 0), a (v (L I) 1), a (add (v I 2) (c 1)), a (v (L I) 3)]))
  (.ret [a (v (L I) 3)]))
def tr_spec_l2Last : Tr := .call f_spec_l1Values [a (v (L T4) 0), a (v (L I) 1)] 100192
 (.guard (le (c 0) (sub (ln (v (L T4) 0)) (c 1)))
  (.guard (lt (sub (ln (v (L T4) 0)) (c 1)) (ln (v (L I) 100192)))
   (.ret [a (ix (v (L I) 100192) (sub (ln (v (L T4) 0)) (c 1)))])))
def tr_spec_l2In : Tr := .ite (ne (ln (v (L I) 2)) (ln (v (L V3) 0)))
 (.ret [a (k false)])
 (.loop [a (v (L I) 2), a (c 0), a (v (L V3) 0), a (v (L TR) 1)]
  (.ite (lt (v I 1) (ln (v (L I) 0)))
   (.guard (le (c 0) (v I 1))
    (.guard (lt (v I 1) (ln (v (L I) 0)))
     (.guard (le (c 0) (v I 1))
      (.guard (lt (v I 1) (ln (v (L V3) 2)))
       (.guard (le (c 0) (v I 1))
        (.guard (lt (v I 1) (ln (v (L V3) 2)))
         (.call f_spec_l1In [a (ix (v (L I) 0) (v I 1)), a (f (ix (v (L V3) 2) (v I 1))), a (f (s (ix (v (L V3) 2) (v I 1))))] 1285
          (.ite (nt (v B 1285))
           (.ret [a (k false)])
           (.jump 0 [a (v (L I) 0), a (add (v I 1) (c 1)), a (v (L V3) 2), a (v (L TR) 3)])))))))))
   (.ret [a (k true)])))
def tr_spec_l2Use : Tr := .guard (le (c 0) (v I 3))
 (.guard (lt (v I 3) (ln (v (L TR) 1)))
  (.call f_spec_l2Last [a (f (ix (v (L TR) 1) (v I 3))), a (v (L I) 2)] 100768
   (.ite (eq (v I 100768) (c 0))
    (.ret [a (nl I)])
    (.loop [a (v (L I) 2), a (c 0), a (v (L V3) 0), a (v (L TR) 1), a (f (ix (v (L TR) 1) (v I 3))), a (f (s (ix (v (L TR) 1) (v I 3)))), a (s (s (ix (v (L TR) 1) (v I 3)))), a (nl I)]
     (.ite (lt (v I 1) (ln (v (L I) 0)))
      (.guard (le (c 0) (v I 1))
       (.guard (lt (v I 1) (ln (v (L I) 0)))
        (.guard (le (ln (v (L I) 7)) (c 549755813888))
         (.guard (le (ln (one (ix (v (L I) 0) (v I 1)))) (c 549755813888))
          (.jump 0 [a (v (L I) 0), a (add (v I 1) (c 1)), a (v (L V3) 2), a (v (L TR) 3), a (v (L T4) 4), a (v (L I) 5), a (v (L (L T4)) 6), a (app (v (L I) 7) (one (ix (v (L I) 0) (v I 1))))])))))
      (.loop [a (v (L I) 0), a (c 0), a (v (L V3) 2), a (v (L TR) 3), a (v (L T4) 4), a (v (L I) 5), a (v (L (L T4)) 6), a (v (L I) 7)]
       (.ite (lt (v I 1) (ln (v (L I) 5)))
        (.guard (le (c 0) (v I 1))
         (.guard (lt (v I 1) (ln (v (L I) 5)))
          (.guard (le (c 0) (v I 1))
           (.guard (lt (v I 1) (ln (v (L (L T4)) 6)))
            (.call f_spec_l2Last [a (ix (v (L (L T4)) 6) (v I 1)), a (v (L I) 0)] 1099
             (.guard (le (c 0) (ix (v (L I) 5) (v I 1)))
              (.guard (lt (ix (v (L I) 5) (v I 1)) (ln (v (L I) 7)))
               (.jump 0 [a (v (L I) 0), a (add (v I 1) (c 1)), a (v (L V3) 2), a (v (L TR) 3), a (v (L T4) 4), a (v (L I) 5), a (v (L (L T4)) 6), a (st (v (L I) 7) (ix (v (L I) 5) (v I 1)) (v I 1099))]))))))))
        (.call f_spec_l2In [a (v (L V3) 2), a (v (L TR) 3), a (v (L I) 7)] 459
         (.ite (nt (v B 459))
          (.ret [a (nl I)])
          (.ret [a (v (L I) 7)]))))))))))
def tr_spec_l2Same : Tr := .ite (ne (ln (v (L I) 0)) (ln (v (L I) 1)))
 (.ret [a (k false)])
 (.loop [a (v (L I) 0), a (v (L I) 1), a (c 0)]
  (.ite (lt (v I 2) (ln (v (L I) 0)))
   (.guard (le (c 0) (v I 2))
    (.guard (lt (v I 2) (ln (v (L I) 0)))
     (.guard (le (c 0) (v I 2))
      (.guard (lt (v I 2) (ln (v (L I) 1)))
       (.ite (ne (ix (v (L I) 0) (v I 2)) (ix (v (L I) 1) (v I 2)))
        (.ret [a (k false)])
        (.jump 0 [a (v (L I) 0), a (v (L I) 1), a (add (v I 2) (c 1))]))))))
   (.ret [a (k true)])))
def tr_spec_l2Less : Tr := .join
 (.loop [a (v (L I) 0), a (v (L I) 1), a (c 0)]
  (.ite (lt (v I 2) (ln (v (L I) 0)))
   (.ite (lt (v I 2) (ln (v (L I) 1)))
    (.guard (le (c 0) (v I 2))
     (.guard (lt (v I 2) (ln (v (L I) 0)))
      (.guard (le (c 0) (v I 2))
       (.guard (lt (v I 2) (ln (v (L I) 1)))
        (.ite (ne (ix (v (L I) 0) (v I 2)) (ix (v (L I) 1) (v I 2)))
         (.guard (le (c 0) (v I 2))
          (.guard (lt (v I 2) (ln (v (L I) 0)))
           (.guard (le (c 0) (v I 2))
            (.guard (lt (v I 2) (ln (v (L I) 1)))
             (.ret [a (lt (ix (v (L I) 0) (v I 2)) (ix (v (L I) 1) (v I 2)))])))))
         (.jump 0 [a (v (L I) 0), a (v (L I) 1), a (add (v I 2) (c 1))]))))))
    (.jump 1 [a (v (L I) 0), a (v (L I) 1)]))
   (.jump 1 [a (v (L I) 0), a (v (L I) 1)])))
 (.ret [a (lt (ln (v (L I) 0)) (ln (v (L I) 1)))])
def tr_spec_l2Put : Tr := .loop [a (v (L (L I)) 0), a (v (L I) 1), a (k false), a (c 0), a (nl (L I))]
 (.ite (lt (v I 3) (ln (v (L (L I)) 0)))
  (.join
   (.ite (nt (v B 2))
    (.guard (le (c 0) (v I 3))
     (.guard (lt (v I 3) (ln (v (L (L I)) 0)))
      (.call f_spec_l2Same [a (ix (v (L (L I)) 0) (v I 3)), a (v (L I) 1)] 774
       (.ite (v B 774)
        (.jump 0 [a (v (L (L I)) 0), a (v (L I) 1), a (k true), a (v I 3), a (v (L (L I)) 4)])
        (.jump 0 [a (v (L (L I)) 0), a (v (L I) 1), a (v B 2), a (v I 3), a (v (L (L I)) 4)])))))
    (.jump 0 [a (v (L (L I)) 0), a (v (L I) 1), a (v B 2), a (v I 3), a (v (L (L I)) 4)]))
   (.join
    (.ite (nt (v B 2))
     (.guard (le (c 0) (v I 3))
      (.guard (lt (v I 3) (ln (v (L (L I)) 0)))
       (.call f_spec_l2Less [a (v (L I) 1), a (ix (v (L (L I)) 0) (v I 3))] 518
        (.ite (v B 518)
         (.guard (le (ln (v (L (L I)) 4)) (c 549755813888))
          (.guard (le (ln (one (v (L I) 1))) (c 549755813888))
           (.jump 0 [a (v (L (L I)) 0), a (v (L I) 1), a (k true), a (v I 3), a (app (v (L (L I)) 4) (one (v (L I) 1)))])))
         (.jump 0 [a (v (L (L I)) 0), a (v (L I) 1), a (v B 2), a (v I 3), a (v (L (L I)) 4)])))))
     (.jump 0 [a (v (L (L I)) 0), a (v (L I) 1), a (v B 2), a (v I 3), a (v (L (L I)) 4)]))
    (.guard (le (c 0) (v I 3))
     (.guard (lt (v I 3) (ln (v (L (L I)) 0)))
      (.guard (le (ln (v (L (L I)) 4)) (c 549755813888))
       (.guard (le (ln (one (ix (v (L (L I)) 0) (v I 3)))) (c 549755813888))
        (.jump 0 [a (v (L (L I)) 0), a (v (L I) 1), a (v B 2), a (add (v I 3) (c 1)), a (app (v (L (L I)) 4) (one (ix (v (L (L I)) 0) (v I 3))))])))))))
  (.join
   (.ite (nt (v B 2))
    (.guard (le (ln (v (L (L I)) 4)) (c 549755813888))
     (.guard (le (ln (one (v (L I) 1))) (c 549755813888))
      (.jump 0 [a (app (v (L (L I)) 4) (one (v (L I) 1)))])))
    (.jump 0 [a (v (L (L I)) 4)]))
   (.ret [a (v (L (L I)) 0)])))
def tr_spec_l2Next : Tr := .loop [a (v (L I) 2), a (c 0), a (v (L V3) 0), a (v (L TR) 1), a (nl (L I))]
 (.ite (lt (v I 1) (ln (v (L TR) 3)))
  (.join
   (.call f_spec_l2Use [a (v (L V3) 2), a (v (L TR) 3), a (v (L I) 0), a (v I 1)] 519
    (.ite (gt (ln (v (L I) 519)) (c 0))
     (.call f_spec_l2Put [a (v (L (L I)) 4), a (v (L I) 519)] 967
      (.jump 0 [a (v (L I) 0), a (v I 1), a (v (L V3) 2), a (v (L TR) 3), a (v (L (L I)) 967)]))
     (.jump 0 [a (v (L I) 0), a (v I 1), a (v (L V3) 2), a (v (L TR) 3), a (v (L (L I)) 4)])))
   (.jump 0 [a (v (L I) 0), a (add (v I 1) (c 1)), a (v (L V3) 2), a (v (L TR) 3), a (v (L (L I)) 4)]))
  (.ret [a (v (L (L I)) 4)]))
def tr_spec_l4Number : Tr := .loop [a (v (L I) 2), a (c 0), a (c 0), a (v (L V3) 0), a (v (L TR) 1)]
 (.ite (lt (v I 2) (ln (v (L I) 0)))
  (.guard (le (c 0) (v I 2))
   (.guard (lt (v I 2) (ln (v (L V3) 3)))
    (.guard (le (c 0) (v I 2))
     (.guard (lt (v I 2) (ln (v (L V3) 3)))
      (.guard (le (c 0) (v I 2))
       (.guard (lt (v I 2) (ln (v (L I) 0)))
        (.guard (le (c 0) (v I 2))
         (.guard (lt (v I 2) (ln (v (L V3) 3)))
          (.jump 0 [a (v (L I) 0), a (sub (add (mul (v I 1) (add (sub (f (s (ix (v (L V3) 3) (v I 2)))) (f (ix (v (L V3) 3) (v I 2)))) (c 1))) (ix (v (L I) 0) (v I 2))) (f (ix (v (L V3) 3) (v I 2)))), a (add (v I 2) (c 1)), a (v (L V3) 3), a (v (L TR) 4)])))))))))
  (.ret [a (v I 1)]))
def tr_spec_l4Steps : Tr := .loop [a (c 0), a (v (L V3) 0), a (v (L TR) 1), a (nl (L I))]
 (.call f_spec_SizeOf [a (v (L V3) 1), a (v (L TR) 2)] 134
  (.ite (lt (v I 0) (v I 134))
   (.call f_spec_l4State [a (v (L V3) 1), a (v (L TR) 2), a (v I 0)] 454
    (.call f_spec_l2Next [a (v (L V3) 1), a (v (L TR) 2), a (v (L I) 454)] 518
     (.loop [a (v I 0), a (c 0), a (v (L V3) 1), a (v (L TR) 2), a (v (L (L I)) 3), a (v (L (L I)) 518), a (nl I)]
      (.ite (lt (v I 1) (ln (v (L (L I)) 5)))
       (.guard (le (c 0) (v I 1))
        (.guard (lt (v I 1) (ln (v (L (L I)) 5)))
         (.call f_spec_l4Number [a (v (L V3) 2), a (v (L TR) 3), a (ix (v (L (L I)) 5) (v I 1))] 651
          (.guard (le (ln (v (L I) 6)) (c 549755813888))
           (.guard (le (ln (one (v I 651))) (c 549755813888))
            (.jump 0 [a (v I 0), a (add (v I 1) (c 1)), a (v (L V3) 2), a (v (L TR) 3), a (v (L (L I)) 4), a (v (L (L I)) 5), a (app (v (L I) 6) (one (v I 651)))]))))))
       (.guard (le (ln (v (L (L I)) 4)) (c 549755813888))
        (.guard (le (ln (one (v (L I) 6))) (c 549755813888))
         (.jump 1 [a (add (v I 0) (c 1)), a (v (L V3) 2), a (v (L TR) 3), a (app (v (L (L I)) 4) (one (v (L I) 6)))])))))))
   (.ret [a (v (L (L I)) 3)])))
def tr_spec_l6Value : Tr := .loop [a (v I 0), a (sub (v I 1) (c 1)), a (nl I)]
 (.ite (ge (v I 1) (c 0))
  (.guard (le (c 0) (v I 1))
   (.guard (le (ln (v (L I) 2)) (c 549755813888))
    (.guard (le (ln (one (rem (.o2 (.sh false .i64 .i64) (v I 0) (v I 1)) (c 2)))) (c 549755813888))
     (.jump 0 [a (v I 0), a (sub (v I 1) (c 1)), a (app (v (L I) 2) (one (rem (.o2 (.sh false .i64 .i64) (v I 0) (v I 1)) (c 2))))]))))
  (.ret [a (v (L I) 2)]))
end Go.Proofs.YtboikipchhgdlaaGreat
namespace Go.Proofs.YtboikipchhgdlaaGreat
open Go Go.Sm Go.Sm.Q
def tr_spec_l6State : Tr := .call f_spec_l6Widths [a (v (L V3) 0), a (v (L TR) 1)] 100320
 (.loop [a (v (L I) 2), a (c 0), a (v (L V3) 0), a (v (L TR) 1), a (nl I), a (v (L I) 100320)]
  (.ite (lt (v I 1) (ln (v (L I) 0)))
   (.guard (le (c 0) (v I 1))
    (.guard (lt (v I 1) (ln (v (L I) 0)))
     (.guard (le (c 0) (v I 1))
      (.guard (lt (v I 1) (ln (v (L V3) 2)))
       (.guard (le (c 0) (v I 1))
        (.guard (lt (v I 1) (ln (v (L I) 5)))
         (.call f_spec_l6Value [a (sub (ix (v (L I) 0) (v I 1)) (f (ix (v (L V3) 2) (v I 1)))), a (ix (v (L I) 5) (v I 1))] 1225
          (.loop [a (v (L I) 0), a (v I 1), a (c 0), a (v (L V3) 2), a (v (L TR) 3), a (v (L I) 4), a (v (L I) 5), a (v (L I) 1225)]
           (.ite (lt (v I 2) (ln (v (L I) 7)))
            (.guard (le (c 0) (v I 2))
             (.guard (lt (v I 2) (ln (v (L I) 7)))
              (.guard (le (ln (v (L I) 5)) (c 549755813888))
               (.guard (le (ln (one (ix (v (L I) 7) (v I 2)))) (c 549755813888))
                (.jump 0 [a (v (L I) 0), a (v I 1), a (add (v I 2) (c 1)), a (v (L V3) 3), a (v (L TR) 4), a (app (v (L I) 5) (one (ix (v (L I) 7) (v I 2)))), a (v (L I) 6), a (v (L I) 7)])))))
            (.jump 1 [a (v (L I) 0), a (add (v I 1) (c 1)), a (v (L V3) 3), a (v (L TR) 4), a (v (L I) 5), a (v (L I) 6)]))))))))))
   (.ret [a (v (L I) 4)])))
def tr_spec_l10Both : Tr := .loop [a (v (L I) 0), a (v (L I) 1), a (c 0), a (nl I)]
 (.ite (lt (v I 2) (ln (v (L I) 0)))
  (.guard (le (c 0) (v I 2))
   (.guard (lt (v I 2) (ln (v (L I) 0)))
    (.guard (le (c 0) (v I 2))
     (.guard (lt (v I 2) (ln (v (L I) 1)))
      (.guard (le (ln (v (L I) 3)) (c 549755813888))
       (.guard (le (ln (app (one (ix (v (L I) 0) (v I 2))) (one (ix (v (L I) 1) (v I 2))))) (c 549755813888))
        (.jump 0 [a (v (L I) 0), a (v (L I) 1), a (add (v I 2) (c 1)), a (app (v (L I) 3) (app (one (ix (v (L I) 0) (v I 2))) (one (ix (v (L I) 1) (v I 2)))))])))))))
  (.ret [a (v (L I) 3)]))
def tr_spec_l10Steps : Tr := .call f_spec_l4Steps [a (v (L V3) 0), a (v (L TR) 1)] 100320
 (.loop [a (c 0), a (v (L V3) 0), a (v (L TR) 1), a (nl (L I)), a (v (L (L I)) 100320)]
  (.ite (lt (v I 0) (ln (v (L (L I)) 4)))
   (.loop [a (v I 0), a (c 0), a (v (L V3) 1), a (v (L TR) 2), a (v (L (L I)) 3), a (v (L (L I)) 4)]
    (.guard (le (c 0) (v I 0))
     (.guard (lt (v I 0) (ln (v (L (L I)) 5)))
      (.ite (lt (v I 1) (ln (ix (v (L (L I)) 5) (v I 0))))
       (.guard (le (c 0) (v I 0))
        (.guard (lt (v I 0) (ln (v (L (L I)) 5)))
         (.guard (le (c 0) (v I 1))
          (.guard (lt (v I 1) (ln (ix (v (L (L I)) 5) (v I 0))))
           (.call f_spec_l4State [a (v (L V3) 2), a (v (L TR) 3), a (v I 0)] 1289
            (.call f_spec_l6State [a (v (L V3) 2), a (v (L TR) 3), a (v (L I) 1289)] 1353
             (.call f_spec_l4State [a (v (L V3) 2), a (v (L TR) 3), a (ix (ix (v (L (L I)) 5) (v I 0)) (v I 1))] 1417
              (.call f_spec_l6State [a (v (L V3) 2), a (v (L TR) 3), a (v (L I) 1417)] 1481
               (.call f_spec_l10Both [a (v (L I) 1353), a (v (L I) 1481)] 1545
                (.guard (le (ln (v (L (L I)) 4)) (c 549755813888))
                 (.guard (le (ln (one (v (L I) 1545))) (c 549755813888))
                  (.jump 0 [a (v I 0), a (add (v I 1) (c 1)), a (v (L V3) 2), a (v (L TR) 3), a (app (v (L (L I)) 4) (one (v (L I) 1545))), a (v (L (L I)) 5)]))))))))))))
       (.jump 1 [a (add (v I 0) (c 1)), a (v (L V3) 2), a (v (L TR) 3), a (v (L (L I)) 4), a (v (L (L I)) 5)])))))
   (.ret [a (v (L (L I)) 3)])))
def tr_spec_l6Number : Tr := .loop [a (v (L I) 0), a (c 0), a (c 0)]
 (.ite (lt (v I 2) (ln (v (L I) 0)))
  (.guard (le (c 0) (v I 2))
   (.guard (lt (v I 2) (ln (v (L I) 0)))
    (.jump 0 [a (v (L I) 0), a (add (mul (v I 1) (c 2)) (ix (v (L I) 0) (v I 2))), a (add (v I 2) (c 1))])))
  (.ret [a (v I 1)]))
def tr_spec_l8Add : Tr := .ite (lt (v I 3) (c 0))
 (.ret [a (v I 0), a (v (L V3) 1), a (c (-1))])
 (.ite (lt (v I 4) (c 0))
  (.ret [a (v I 0), a (v (L V3) 1), a (c (-1))])
  (.ite (eq (v I 3) (v I 4))
   (.ret [a (v I 0), a (v (L V3) 1), a (v I 3)])
   (.loop [a (c 0), a (v I 0), a (v (L V3) 1), a (c 0), a (v I 2), a (v I 3), a (v I 4)]
    (.ite (lt (v I 0) (ln (v (L V3) 2)))
     (.guard (le (c 0) (v I 0))
      (.guard (lt (v I 0) (ln (v (L V3) 2)))
       (.ite (.o2 .and (eq (f (ix (v (L V3) 2) (v I 0))) (v I 4)) (.o2 .and (eq (f (s (ix (v (L V3) 2) (v I 0)))) (v I 5)) (eq (s (s (ix (v (L V3) 2) (v I 0)))) (v I 6))))
        (.ret [a (v I 1), a (v (L V3) 2), a (add (v I 0) (c 2))])
        (.jump 0 [a (add (v I 0) (c 1)), a (v I 1), a (v (L V3) 2), a (v I 3), a (v I 4), a (v I 5), a (v I 6)]))))
     (.ite (ge (ln (v (L V3) 2)) (c 2000))
      (.ret [a (v I 1), a (v (L V3) 2), a (c (-1))])
      (.guard (le (ln (v (L V3) 2)) (c 549755813888))
       (.guard (le (ln (one (pr (v I 4) (pr (v I 5) (v I 6))))) (c 549755813888))
        (.join
         (.jump 0 [a (add (ln (app (v (L V3) 2) (one (pr (v I 4) (pr (v I 5) (v I 6)))))) (c 1)), a (v I 1), a (app (v (L V3) 2) (one (pr (v I 4) (pr (v I 5) (v I 6)))))])
         (.ret [a (v I 1), a (v (L V3) 2), a (v I 0)])))))))))
def tr_spec_l8Rows : Tr := .ite (eq (v I 3) (v I 0))
 (.guard (lt (c 0) (ln (v (L I) 2)))
  (.join
   (.jump 0 [a (ix (v (L I) 2) (c 0)), a (v I 0), a (v (L V3) 1)])
   (.ret [a (v I 1), a (v (L V3) 2), a (v I 0)])))
 (.guard (le (quo (ln (v (L I) 2)) (c 2)) (ln (re false (v (L I) 2))))
  (.guard (le (c 0) (quo (ln (v (L I) 2)) (c 2)))
   (.call f_spec_l8Rows [a (v I 0), a (v (L V3) 1), a (take (re false (v (L I) 2)) (quo (ln (v (L I) 2)) (c 2))), a (add (v I 3) (c 1))] 101088
    (.join
     (.jump 0 [a (v (L I) 2), a (v I 3), a (quo (ln (v (L I) 2)) (c 2)), a (v I 101090), a (v I 0), a (c 0), a (v I 101088), a (v (L V3) 101089)])
     (.ite (lt (v I 3) (c 0))
      (.bad)
      (.guard (le (c 0) (v I 2))
       (.guard (le (v I 2) (ln (re false (v (L I) 0))))
        (.call f_spec_l8Rows [a (v I 6), a (v (L V3) 7), a (drop (re false (v (L I) 0)) (v I 2)), a (add (v I 1) (c 1))] 524
         (.join
          (.jump 0 [a (v I 1), a (v I 3), a (v I 526), a (v I 5), a (v I 524), a (v (L V3) 525)])
          (.call f_spec_l8Add [a (v I 4), a (v (L V3) 5), a (v I 0), a (v I 1), a (v I 2)] 265
           (.ret [a (v I 265), a (v (L V3) 266), a (v I 267)])))))))))))
def tr_spec_l10Of : Tr := .guard (le (c 0) (v I 0))
 (.guard (le (c 0) (.o2 (.sh true .i64 .i64) (c 1) (v I 0)))
  (.guard (le (.o2 (.sh true .i64 .i64) (c 1) (v I 0)) (.o2 (.sh true .i64 .i64) (c 1) (v I 0)))
   (.guard (le (.o2 (.sh true .i64 .i64) (c 1) (v I 0)) (c 549755813888))
    (.loop [a (v I 0), a (v (L (L I)) 1), a (c 0), a (c 0), a (rep (.o2 (.sh true .i64 .i64) (c 1) (v I 0)) (z I))]
     (.ite (lt (v I 2) (ln (v (L (L I)) 1)))
      (.guard (le (c 0) (v I 2))
       (.guard (lt (v I 2) (ln (v (L (L I)) 1)))
        (.call f_spec_l6Number [a (ix (v (L (L I)) 1) (v I 2))] 583
         (.guard (le (c 0) (v I 583))
          (.guard (lt (v I 583) (ln (v (L I) 4)))
           (.jump 0 [a (v I 0), a (v (L (L I)) 1), a (add (v I 2) (c 1)), a (v I 3), a (st (v (L I) 4) (v I 583) (c 1))]))))))
      (.call f_spec_l8Rows [a (v I 0), a (nl V3), a (v (L I) 4), a (c 0)] 455
       (.ret [a (v I 455), a (v (L V3) 456), a (v I 457)])))))))
def tr_spec_StepDiagram : Tr := .call f_spec_l10Wide [a (v (L V3) 0), a (v (L TR) 1)] 100256
 (.ite (lt (v I 100256) (c 0))
  (.ret [a (c 0), a (nl V3), a (c (-1))])
  (.call f_spec_l10Steps [a (v (L V3) 0), a (v (L TR) 1)] 100704
   (.call f_spec_l10Of [a (mul (c 2) (v I 100256)), a (v (L (L I)) 100704)] 100768
    (.ret [a (v I 100768), a (v (L V3) 100769), a (v I 100770)]))))
def tr_spec_l8Var : Tr := .ite (lt (v I 2) (c 2))
 (.ret [a (v I 0)])
 (.guard (le (c 0) (sub (v I 2) (c 2)))
  (.guard (lt (sub (v I 2) (c 2)) (ln (v (L V3) 1)))
   (.ret [a (f (ix (v (L V3) 1) (sub (v I 2) (c 2))))])))
def tr_spec_l8Fork : Tr := .call f_spec_l1In [a (v I 2), a (c 0), a (sub (v I 0) (c 1))] 100512
 (.ite (nt (v B 100512))
  (.ret [a (k false)])
  (.call f_spec_l1In [a (v I 3), a (c 0), a (v I 5)] 100896
   (.ite (nt (v B 100896))
    (.ret [a (k false)])
    (.call f_spec_l1In [a (v I 4), a (c 0), a (v I 5)] 101344
     (.ite (nt (v B 101344))
      (.ret [a (k false)])
      (.call f_spec_l8Var [a (v I 0), a (v (L V3) 1), a (v I 3)] 101856
       (.ite (gt (v I 101856) (v I 2))
        (.call f_spec_l8Var [a (v I 0), a (v (L V3) 1), a (v I 4)] 102368
         (.ret [a (gt (v I 102368) (v I 2))]))
        (.ret [a (k false)]))))))))
def tr_spec_DiagramValid : Tr := .call f_spec_l1In [a (v I 0), a (c 0), a (c 12)] 100256
 (.ite (nt (v B 100256))
  (.ret [a (k false)])
  (.ite (gt (ln (v (L V3) 1)) (c 2000))
   (.ret [a (k false)])
   (.loop [a (c 0), a (v I 0), a (v (L V3) 1)]
    (.ite (lt (v I 0) (ln (v (L V3) 2)))
     (.guard (le (c 0) (v I 0))
      (.guard (lt (v I 0) (ln (v (L V3) 2)))
       (.call f_spec_l8Fork [a (v I 1), a (v (L V3) 2), a (f (ix (v (L V3) 2) (v I 0))), a (f (s (ix (v (L V3) 2) (v I 0)))), a (s (s (ix (v (L V3) 2) (v I 0)))), a (add (v I 0) (c 1))] 1028
        (.ite (nt (v B 1028))
         (.ret [a (k false)])
         (.ite (eq (f (s (ix (v (L V3) 2) (v I 0)))) (s (s (ix (v (L V3) 2) (v I 0)))))
          (.ret [a (k false)])
          (.loop [a (v I 0), a (c 0), a (v I 1), a (v (L V3) 2), a (f (ix (v (L V3) 2) (v I 0))), a (f (s (ix (v (L V3) 2) (v I 0)))), a (s (s (ix (v (L V3) 2) (v I 0))))]
           (.ite (lt (v I 1) (v I 0))
            (.guard (le (c 0) (v I 1))
             (.guard (lt (v I 1) (ln (v (L V3) 3)))
              (.ite (.o2 .and (eq (f (ix (v (L V3) 3) (v I 1))) (v I 4)) (.o2 .and (eq (f (s (ix (v (L V3) 3) (v I 1)))) (v I 5)) (eq (s (s (ix (v (L V3) 3) (v I 1)))) (v I 6))))
               (.ret [a (k false)])
               (.jump 0 [a (v I 0), a (add (v I 1) (c 1)), a (v I 2), a (v (L V3) 3), a (v I 4), a (v I 5), a (v I 6)]))))
            (.jump 1 [a (add (v I 0) (c 1)), a (v I 2), a (v (L V3) 3)]))))))))
     (.ret [a (k true)])))))
def tr_spec_l8Place : Tr := .call f_spec_l1In [a (v I 2), a (c 0), a (add (ln (v (L V3) 1)) (c 1))] 100448
 (.ret [a (v B 100448)])
def tr_spec_l8Count : Tr := .ite (lt (v I 2) (c 2))
 (.guard (le (c 0) (sub (v I 0) (v I 3)))
  (.ret [a (.o2 (.sh true .i64 .i64) (v I 2) (sub (v I 0) (v I 3)))]))
 (.guard (le (c 0) (sub (v I 2) (c 2)))
  (.guard (lt (sub (v I 2) (c 2)) (ln (v (L V3) 1)))
   (.call f_spec_l8Count [a (v I 0), a (v (L V3) 1), a (f (s (ix (v (L V3) 1) (sub (v I 2) (c 2))))), a (add (f (ix (v (L V3) 1) (sub (v I 2) (c 2)))) (c 1))] 101792
    (.call f_spec_l8Count [a (v I 0), a (v (L V3) 1), a (s (s (ix (v (L V3) 1) (sub (v I 2) (c 2))))), a (add (f (ix (v (L V3) 1) (sub (v I 2) (c 2)))) (c 1))] 101856
     (.guard (le (c 0) (sub (f (ix (v (L V3) 1) (sub (v I 2) (c 2)))) (v I 3)))
      (.ret [a (.o2 (.sh true .i64 .i64) (add (v I 101792) (v I 101856)) (sub (f (ix (v (L V3) 1) (sub (v I 2) (c 2)))) (v I 3)))]))))))
def tr_spec_DiagramCount : Tr := .call f_spec_DiagramValid [a (v I 0), a (v (L V3) 1)] 100192
 (.ite (nt (v B 100192))
  (.ret [a (c (-1))])
  (.call f_spec_l8Place [a (v I 0), a (v (L V3) 1), a (v I 2)] 100512
   (.ite (nt (v B 100512))
    (.ret [a (c (-1))])
    (.call f_spec_l8Count [a (v I 0), a (v (L V3) 1), a (v I 2), a (c 0)] 100832
     (.ret [a (v I 100832)])))))
def tr_spec_StepsCount : Tr := .call f_spec_StepDiagram [a (v (L V3) 0), a (v (L TR) 1)] 100192
 (.call f_spec_DiagramCount [a (v I 100192), a (v (L V3) 100193), a (v I 100194)] 100768
  (.ret [a (v I 100768)]))
def tr_impl_in : Tr := .ite (ge (v I 0) (v I 1))
 (.ret [a (le (v I 0) (v I 2))])
 (.ret [a (k false)])
def tr_impl_varOk : Tr := .call f_impl_in [a (v I 0), a (c (-9999)), a (c 9999)] 100256
 (.ite (v B 100256)
  (.call f_impl_in [a (v I 1), a (v I 0), a (c 9999)] 100640
   (.ite (v B 100640)
    (.ite (lt (sub (v I 1) (v I 0)) (c 20))
     (.call f_impl_in [a (v I 2), a (v I 0), a (v I 1)] 101728
      (.ret [a (v B 101728)]))
     (.ret [a (k false)]))
    (.ret [a (k false)])))
  (.ret [a (k false)]))
def tr_impl_size : Tr := .loop [a (c 1), a (v (L V3) 0), a (ln (v (L V3) 0)), a (c 0)]
 (.ite (lt (v I 3) (v I 2))
  (.guard (le (c 0) (v I 3))
   (.guard (lt (v I 3) (ln (v (L V3) 1)))
    (.jump 0 [a (mul (v I 0) (add (sub (f (s (ix (v (L V3) 1) (v I 3)))) (f (ix (v (L V3) 1) (v I 3)))) (c 1))), a (v (L V3) 1), a (v I 2), a (add (v I 3) (c 1))])))
  (.ret [a (v I 0)]))
def tr_impl_parts : Tr := .ite (eq (v I 0) (c 2))
 (.ret [a (c 2), a (c 1), a (c 1)])
 (.ite (eq (v I 0) (c 3))
  (.ret [a (c 2), a (c 1), a (c 1)])
  (.ite (eq (v I 0) (c 4))
   (.ret [a (c 2), a (c 1), a (c 1)])
   (.ite (eq (v I 0) (c 5))
    (.ret [a (c 2), a (c 1), a (c 2)])
    (.ite (eq (v I 0) (c 6))
     (.ret [a (c 2), a (c 1), a (c 2)])
     (.ite (eq (v I 0) (c 7))
      (.ret [a (c 1), a (c 2), a (c 2)])
      (.ite (eq (v I 0) (c 8))
       (.ret [a (c 2), a (c 2), a (c 2)])
       (.ite (eq (v I 0) (c 9))
        (.ret [a (c 2), a (c 2), a (c 2)])
        (.ret [a (c 0), a (c 0), a (c 1)]))))))))
def tr_impl_kindsOf : Tr := .call f_impl_in [a (v I 1), a (c 0), a (c 5)] 100128
 (.ite (nt (v B 100128))
  (.ret [a (.nil true I)])
  (.call f_impl_in [a (ln (v (L T4) 0)), a (c 1), a (c 40)] 100448
   (.ite (nt (v B 100448))
    (.ret [a (.nil true I)])
    (.guard (le (c 0) (ln (v (L T4) 0)))
     (.guard (le (ln (v (L T4) 0)) (c 549755813888))
      (.loop [a (v I 1), a (v (L T4) 0), a (ln (v (L T4) 0)), a (c 0), a (rep (c 0) (z I))]
       (.ite (lt (v I 3) (v I 2))
        (.guard (le (c 0) (v I 3))
         (.guard (lt (v I 3) (ln (v (L T4) 1)))
          (.call f_impl_parts [a (f (ix (v (L T4) 1) (v I 3)))] 582
           (.call f_impl_in [a (f (ix (v (L T4) 1) (v I 3))), a (c 0), a (c 9)] 1222
            (.join
             (.ite (eq (f (ix (v (L T4) 1) (v I 3))) (c 0))
              (.call f_impl_in [a (f (s (ix (v (L T4) 1) (v I 3)))), a (c (-9999)), a (c 9999)] 1734
               (.ite (v B 1734)
                (.ite (eq (f (s (s (ix (v (L T4) 1) (v I 3))))) (c 0))
                 (.jump 0 [a (v I 0), a (v I 584), a (eq (s (s (s (ix (v (L T4) 1) (v I 3))))) (c 0)), a (v (L T4) 1), a (v I 2), a (v I 3), a (v (L I) 4)])
                 (.jump 0 [a (v I 0), a (v I 584), a (k false), a (v (L T4) 1), a (v I 2), a (v I 3), a (v (L I) 4)]))
                (.jump 0 [a (v I 0), a (v I 584), a (k false), a (v (L T4) 1), a (v I 2), a (v I 3), a (v (L I) 4)])))
              (.ite (eq (f (ix (v (L T4) 1) (v I 3))) (c 1))
               (.call f_impl_in [a (f (s (ix (v (L T4) 1) (v I 3)))), a (c 0), a (sub (v I 0) (c 1))] 2118
                (.ite (v B 2118)
                 (.ite (eq (f (s (s (ix (v (L T4) 1) (v I 3))))) (c 0))
                  (.jump 0 [a (v I 0), a (v I 584), a (eq (s (s (s (ix (v (L T4) 1) (v I 3))))) (c 0)), a (v (L T4) 1), a (v I 2), a (v I 3), a (v (L I) 4)])
                  (.jump 0 [a (v I 0), a (v I 584), a (k false), a (v (L T4) 1), a (v I 2), a (v I 3), a (v (L I) 4)]))
                 (.jump 0 [a (v I 0), a (v I 584), a (k false), a (v (L T4) 1), a (v I 2), a (v I 3), a (v (L I) 4)])))
               (.ite (v B 1222)
                (.ite (eq (f (s (ix (v (L T4) 1) (v I 3)))) (c 0))
                 (.call f_impl_in [a (f (s (s (ix (v (L T4) 1) (v I 3))))), a (c 0), a (sub (v I 3) (c 1))] 2502
                  (.ite (v B 2502)
                   (.call f_impl_in [a (s (s (s (ix (v (L T4) 1) (v I 3))))), a (c 0), a (sub (v I 3) (c 1))] 2950
                    (.ite (v B 2950)
                     (.guard (le (c 0) (f (s (s (ix (v (L T4) 1) (v I 3))))))
                      (.guard (lt (f (s (s (ix (v (L T4) 1) (v I 3))))) (ln (v (L I) 4)))
                       (.ite (eq (ix (v (L I) 4) (f (s (s (ix (v (L T4) 1) (v I 3)))))) (v I 583))
                        (.guard (le (c 0) (s (s (s (ix (v (L T4) 1) (v I 3))))))
                         (.guard (lt (s (s (s (ix (v (L T4) 1) (v I 3))))) (ln (v (L I) 4)))
                          (.ite (eq (ix (v (L I) 4) (s (s (s (ix (v (L T4) 1) (v I 3)))))) (v I 583))
                           (.ite (eq (v I 582) (c 2))
                            (.jump 0 [a (v I 0), a (v I 584), a (k true), a (v (L T4) 1), a (v I 2), a (v I 3), a (v (L I) 4)])
                            (.jump 0 [a (v I 0), a (v I 584), a (eq (f (s (s (ix (v (L T4) 1) (v I 3))))) (s (s (s (ix (v (L T4) 1) (v I 3)))))), a (v (L T4) 1), a (v I 2), a (v I 3), a (v (L I) 4)]))
                           (.jump 0 [a (v I 0), a (v I 584), a (k false), a (v (L T4) 1), a (v I 2), a (v I 3), a (v (L I) 4)]))))
                        (.jump 0 [a (v I 0), a (v I 584), a (k false), a (v (L T4) 1), a (v I 2), a (v I 3), a (v (L I) 4)]))))
                     (.jump 0 [a (v I 0), a (v I 584), a (k false), a (v (L T4) 1), a (v I 2), a (v I 3), a (v (L I) 4)])))
                   (.jump 0 [a (v I 0), a (v I 584), a (k false), a (v (L T4) 1), a (v I 2), a (v I 3), a (v (L I) 4)])))
                 (.jump 0 [a (v I 0), a (v I 584), a (k false), a (v (L T4) 1), a (v I 2), a (v I 3), a (v (L I) 4)]))
                (.jump 0 [a (v I 0), a (v I 584), a (k false), a (v (L T4) 1), a (v I 2), a (v I 3), a (v (L I) 4)]))))
             (.ite (nt (v B 2))
              (.ret [a (.nil true I)])
              (.guard (le (ln (v (L I) 6)) (c 549755813888))
               (.guard (le (ln (one (v I 1))) (c 549755813888))
                (.jump 0 [a (v I 0), a (v (L T4) 3), a (v I 4), a (add (v I 5) (c 1)), a (app (v (L I) 6) (one (v I 1)))])))))))))
        (.guard (nt (emp (v (L I) 4)))
         (.ret [a (re true (v (L I) 4))])))))))))
def tr_impl_kindOf : Tr := .call f_impl_kindsOf [a (v (L T4) 0), a (v I 1)] 100192
 (.ite (emp (v (N I) 100192))
  (.ret [a (c 0)])
  (.guard (le (c 0) (sub (lm (v (N I) 100192)) (c 1)))
   (.guard (lt (sub (lm (v (N I) 100192)) (c 1)) (lm (v (N I) 100192)))
    (.ret [a (im (v (N I) 100192) (sub (lm (v (N I) 100192)) (c 1)))]))))
def tr_impl_ruleOk : Tr := .call f_impl_kindOf [a (v (L T4) 0), a (v I 3)] 100320
 (.ite (ne (v I 100320) (c 2))
  (.ret [a (k false)])
  (.ite (ne (ln (v (L I) 1)) (ln (v (L (L T4)) 2)))
   (.ret [a (k false)])
   (.loop [a (v I 3), a (v (L I) 1), a (ln (v (L I) 1)), a (c 0), a (v (L T4) 0), a (v (L I) 1), a (v (L (L T4)) 2)]
    (.ite (lt (v I 3) (v I 2))
     (.join
      (.guard (le (c 0) (v I 3))
       (.guard (lt (v I 3) (ln (v (L I) 1)))
        (.call f_impl_in [a (ix (v (L I) 1) (v I 3)), a (c 0), a (sub (v I 0) (c 1))] 584
         (.ite (nt (v B 584))
          (.ret [a (k false)])
          (.ite (gt (v I 3) (c 0))
           (.guard (le (c 0) (sub (v I 3) (c 1)))
            (.guard (lt (sub (v I 3) (c 1)) (ln (v (L I) 5)))
             (.ite (ge (ix (v (L I) 5) (sub (v I 3) (c 1))) (ix (v (L I) 1) (v I 3)))
              (.ret [a (k false)])
              (.guard (le (c 0) (v I 3))
               (.guard (lt (v I 3) (ln (v (L (L T4)) 6)))
                (.call f_impl_kindOf [a (ix (v (L (L T4)) 6) (v I 3)), a (v I 0)] 2056
                 (.ite (ne (v I 2056) (c 1))
                  (.ret [a (k false)])
                  (.jump 0 [a (v I 0), a (v (L I) 1), a (v I 2), a (v I 3), a (v (L T4) 4), a (v (L I) 5), a (v (L (L T4)) 6)]))))))))
           (.guard (le (c 0) (v I 3))
            (.guard (lt (v I 3) (ln (v (L (L T4)) 6)))
             (.call f_impl_kindOf [a (ix (v (L (L T4)) 6) (v I 3)), a (v I 0)] 2056
              (.ite (ne (v I 2056) (c 1))
               (.ret [a (k false)])
               (.jump 0 [a (v I 0), a (v (L I) 1), a (v I 2), a (v I 3), a (v (L T4) 4), a (v (L I) 5), a (v (L (L T4)) 6)]))))))))))
      (.jump 0 [a (v I 0), a (v (L I) 1), a (v I 2), a (add (v I 3) (c 1)), a (v (L T4) 4), a (v (L I) 5), a (v (L (L T4)) 6)]))
     (.ret [a (k true)])))))
def tr_impl_SystemValid : Tr := .join
 (.call f_impl_in [a (ln (v (L V3) 0)), a (c 1), a (c 5)] 100320
  (.ite (nt (v B 100320))
   (.ret [a (k false)])
   (.ite (gt (ln (v (L TR) 1)) (c 8))
    (.ret [a (k false)])
    (.loop [a (v (L V3) 0), a (ln (v (L V3) 0)), a (c 0), a (v (L V3) 0), a (v (L TR) 1)]
     (.ite (lt (v I 2) (v I 1))
      (.guard (le (c 0) (v I 2))
       (.guard (lt (v I 2) (ln (v (L V3) 0)))
        (.call f_impl_varOk [a (f (ix (v (L V3) 0) (v I 2))), a (f (s (ix (v (L V3) 0) (v I 2)))), a (s (s (ix (v (L V3) 0) (v I 2))))] 774
         (.ite (nt (v B 774))
          (.ite (ge (v I 2) (c 0))
           (.ret [a (k false)])
           (.call f_impl_size [a (v (L V3) 3)] 3014
            (.ite (gt (v I 3014) (c 400))
             (.ret [a (k false)])
             (.jump 1 [a (v (L V3) 3), a (v (L TR) 4)]))))
          (.jump 0 [a (v (L V3) 0), a (v I 1), a (add (v I 2) (c 1)), a (v (L V3) 3), a (v (L TR) 4)])))))
      (.call f_impl_size [a (v (L V3) 3)] 1670
       (.ite (gt (v I 1670) (c 400))
        (.ret [a (k false)])
        (.jump 1 [a (v (L V3) 3), a (v (L TR) 4)]))))))))
 (.loop [a (v (L TR) 1), a (ln (v (L TR) 1)), a (c 0), a (v (L V3) 0), a (v (L TR) 1)]
  (.ite (lt (v I 2) (v I 1))
   (.guard (le (c 0) (v I 2))
    (.guard (lt (v I 2) (ln (v (L TR) 0)))
     (.call f_impl_ruleOk [a (f (ix (v (L TR) 0) (v I 2))), a (f (s (ix (v (L TR) 0) (v I 2)))), a (s (s (ix (v (L TR) 0) (v I 2)))), a (ln (v (L V3) 3))] 966
      (.ite (nt (v B 966))
       (.ret [a (nt (ge (v I 2) (c 0)))])
       (.jump 0 [a (v (L TR) 0), a (v I 1), a (add (v I 2) (c 1)), a (v (L V3) 3), a (v (L TR) 4)])))))
   (.ret [a (nt (ge (c (-1)) (c 0)))])))
def tr_impl_bitsFor : Tr := .loop [a (v I 0), a (c 0)]
 (.guard (le (c 0) (v I 1))
  (.ite (lt (.o2 (.sh true .i64 .i64) (c 1) (v I 1)) (v I 0))
   (.jump 0 [a (v I 0), a (add (v I 1) (c 1))])
   (.ret [a (v I 1)])))
def tr_impl_clone_int : Tr := .ite (eq (ln (v (L I) 0)) (c 0))
 (.ret [a (nl I)])
 (.guard (le (c 0) (ln (v (L I) 0)))
  (.guard (le (ln (v (L I) 0)) (c 549755813888))
   (.ret [a (over (rep (ln (v (L I) 0)) (z I)) (v (L I) 0))])))
def tr_impl_bitsOf : Tr := .loop [a (v (L V3) 0), a (ln (v (L V3) 0)), a (c 0), a (nl I)]
 (.ite (lt (v I 2) (v I 1))
  (.guard (le (c 0) (v I 2))
   (.guard (lt (v I 2) (ln (v (L V3) 0)))
    (.call f_impl_bitsFor [a (add (sub (f (s (ix (v (L V3) 0) (v I 2)))) (f (ix (v (L V3) 0) (v I 2)))) (c 1))] 773
     (.guard (le (ln (v (L I) 3)) (c 549755813888))
      (.guard (le (ln (one (v I 773))) (c 549755813888))
       (.jump 0 [a (v (L V3) 0), a (v I 1), a (add (v I 2) (c 1)), a (app (v (L I) 3) (one (v I 773)))]))))))
  (.call f_impl_clone_int [a (v (L I) 3)] 133
   (.ret [a (v (L I) 133)])))
def tr_impl_bitCount : Tr := .call f_impl_bitsOf [a (v (L V3) 0), a (v (L TR) 1)] 100256
 (.loop [a (c 0), a (ln (v (L I) 100256)), a (c 0), a (v (L I) 100256)]
  (.ite (lt (v I 2) (v I 1))
   (.guard (le (c 0) (v I 2))
    (.guard (lt (v I 2) (ln (v (L I) 3)))
     (.jump 0 [a (add (v I 0) (ix (v (L I) 3) (v I 2))), a (v I 1), a (add (v I 2) (c 1)), a (v (L I) 3)])))
   (.ret [a (v I 0)])))
def tr_impl_halfNarrow : Tr := .call f_impl_SystemValid [a (v (L V3) 0), a (v (L TR) 1)] 100192
 (.ite (v B 100192)
  (.call f_impl_bitCount [a (v (L V3) 0), a (v (L TR) 1)] 100384
   (.ret [a (le (mul (c 2) (v I 100384)) (c 12))]))
  (.ret [a (k false)]))
def tr_impl_stateAt : Tr := .guard (le (c 0) (ln (v (L V3) 0)))
 (.guard (le (ln (v (L V3) 0)) (c 549755813888))
  (.loop [a (v I 2), a (sub (ln (rep (ln (v (L V3) 0)) (z I))) (c 1)), a (v (L V3) 0), a (v (L TR) 1), a (rep (ln (v (L V3) 0)) (z I))]
   (.ite (ge (v I 1) (c 0))
    (.guard (le (c 0) (v I 1))
     (.guard (lt (v I 1) (ln (v (L V3) 2)))
      (.guard (ne (add (sub (f (s (ix (v (L V3) 2) (v I 1)))) (f (ix (v (L V3) 2) (v I 1)))) (c 1)) (c 0))
       (.guard (le (c 0) (v I 1))
        (.guard (lt (v I 1) (ln (v (L I) 4)))
         (.guard (ne (add (sub (f (s (ix (v (L V3) 2) (v I 1)))) (f (ix (v (L V3) 2) (v I 1)))) (c 1)) (c 0))
          (.jump 0 [a (quo (v I 0) (add (sub (f (s (ix (v (L V3) 2) (v I 1)))) (f (ix (v (L V3) 2) (v I 1)))) (c 1))), a (sub (v I 1) (c 1)), a (v (L V3) 2), a (v (L TR) 3), a (st (v (L I) 4) (v I 1) (add (f (ix (v (L V3) 2) (v I 1))) (rem (v I 0) (add (sub (f (s (ix (v (L V3) 2) (v I 1)))) (f (ix (v (L V3) 2) (v I 1)))) (c 1)))))])))))))
    (.ret [a (v (L I) 4)]))))
def tr_impl_held : Tr := .ret [a (.o2 (.mx .i64) (c (-9999)) (.o2 (.mn .i64) (c 9999) (v I 0)))]
end Go.Proofs.YtboikipchhgdlaaGreat
namespace Go.Proofs.YtboikipchhgdlaaGreat
open Go Go.Sm Go.Sm.Q
def tr_impl_bit : Tr := .ite (v B 0)
 (.ret [a (c 1)])
 (.ret [a (c 0)])
def tr_impl_do : Tr := .ite (eq (v I 0) (c 2))
 (.call f_impl_held [a (add (v I 1) (v I 2))] 100448
  (.ret [a (v I 100448)]))
 (.ite (eq (v I 0) (c 3))
  (.call f_impl_held [a (sub (v I 1) (v I 2))] 100576
   (.ret [a (v I 100576)]))
  (.ite (eq (v I 0) (c 4))
   (.call f_impl_held [a (mul (v I 1) (v I 2))] 100704
    (.ret [a (v I 100704)]))
   (.ite (eq (v I 0) (c 5))
    (.call f_impl_bit [a (lt (v I 1) (v I 2))] 100832
     (.ret [a (v I 100832)]))
    (.ite (eq (v I 0) (c 6))
     (.call f_impl_bit [a (eq (v I 1) (v I 2))] 100960
      (.ret [a (v I 100960)]))
     (.ite (eq (v I 0) (c 7))
      (.ret [a (sub (c 1) (v I 1))])
      (.ite (eq (v I 0) (c 8))
       (.ret [a (.o2 (.mn .i64) (v I 1) (v I 2))])
       (.ret [a (.o2 (.mx .i64) (v I 1) (v I 2))])))))))
def tr_impl_eval : Tr := .guard (le (c 0) (ln (v (L T4) 0)))
 (.guard (le (ln (v (L T4) 0)) (c 549755813888))
  (.loop [a (v (L I) 1), a (v (L T4) 0), a (ln (v (L T4) 0)), a (c 0), a (rep (ln (v (L T4) 0)) (z I))]
   (.ite (lt (v I 3) (v I 2))
    (.join
     (.guard (le (c 0) (v I 3))
      (.guard (lt (v I 3) (ln (v (L T4) 1)))
       (.ite (eq (f (ix (v (L T4) 1) (v I 3))) (c 0))
        (.guard (le (c 0) (v I 3))
         (.guard (lt (v I 3) (ln (v (L I) 4)))
          (.jump 0 [a (v (L I) 0), a (v (L T4) 1), a (v I 2), a (v I 3), a (st (v (L I) 4) (v I 3) (f (s (ix (v (L T4) 1) (v I 3)))))])))
        (.ite (eq (f (ix (v (L T4) 1) (v I 3))) (c 1))
         (.guard (le (c 0) (f (s (ix (v (L T4) 1) (v I 3)))))
          (.guard (lt (f (s (ix (v (L T4) 1) (v I 3)))) (ln (v (L I) 0)))
           (.guard (le (c 0) (v I 3))
            (.guard (lt (v I 3) (ln (v (L I) 4)))
             (.jump 0 [a (v (L I) 0), a (v (L T4) 1), a (v I 2), a (v I 3), a (st (v (L I) 4) (v I 3) (ix (v (L I) 0) (f (s (ix (v (L T4) 1) (v I 3))))))])))))
         (.guard (le (c 0) (f (s (s (ix (v (L T4) 1) (v I 3))))))
          (.guard (lt (f (s (s (ix (v (L T4) 1) (v I 3))))) (ln (v (L I) 4)))
           (.guard (le (c 0) (s (s (s (ix (v (L T4) 1) (v I 3))))))
            (.guard (lt (s (s (s (ix (v (L T4) 1) (v I 3))))) (ln (v (L I) 4)))
             (.call f_impl_do [a (f (ix (v (L T4) 1) (v I 3))), a (ix (v (L I) 4) (f (s (s (ix (v (L T4) 1) (v I 3)))))), a (ix (v (L I) 4) (s (s (s (ix (v (L T4) 1) (v I 3))))))] 1734
              (.guard (le (c 0) (v I 3))
               (.guard (lt (v I 3) (ln (v (L I) 4)))
                (.jump 0 [a (v (L I) 0), a (v (L T4) 1), a (v I 2), a (v I 3), a (st (v (L I) 4) (v I 3) (v I 1734))]))))))))))))
     (.jump 0 [a (v (L I) 0), a (v (L T4) 1), a (v I 2), a (add (v I 3) (c 1)), a (v (L I) 4)]))
    (.guard (le (c 0) (sub (ln (v (L I) 4)) (c 1)))
     (.guard (lt (sub (ln (v (L I) 4)) (c 1)) (ln (v (L I) 4)))
      (.ret [a (ix (v (L I) 4) (sub (ln (v (L I) 4)) (c 1)))]))))))
def tr_impl_inRange : Tr := .ite (ne (ln (v (L I) 2)) (ln (v (L V3) 0)))
 (.ret [a (k false)])
 (.loop [a (v (L I) 2), a (v (L V3) 0), a (ln (v (L V3) 0)), a (c 0)]
  (.ite (lt (v I 3) (v I 2))
   (.guard (le (c 0) (v I 3))
    (.guard (lt (v I 3) (ln (v (L V3) 1)))
     (.guard (le (c 0) (v I 3))
      (.guard (lt (v I 3) (ln (v (L I) 0)))
       (.call f_impl_in [a (ix (v (L I) 0) (v I 3)), a (f (ix (v (L V3) 1) (v I 3))), a (f (s (ix (v (L V3) 1) (v I 3))))] 964
        (.ite (nt (v B 964))
         (.ret [a (k false)])
         (.jump 0 [a (v (L I) 0), a (v (L V3) 1), a (v I 2), a (add (v I 3) (c 1))])))))))
   (.ret [a (k true)])))
def tr_impl_use : Tr := .guard (le (c 0) (v I 3))
 (.guard (lt (v I 3) (ln (v (L TR) 1)))
  (.call f_impl_eval [a (f (ix (v (L TR) 1) (v I 3))), a (v (L I) 2)] 100832
   (.ite (eq (v I 100832) (c 0))
    (.ret [a (nl I), a (k false)])
    (.call f_impl_clone_int [a (v (L I) 2)] 101024
     (.loop [a (v (L I) 2), a (f (s (ix (v (L TR) 1) (v I 3)))), a (ln (f (s (ix (v (L TR) 1) (v I 3))))), a (c 0), a (v (L V3) 0), a (v (L TR) 1), a (f (ix (v (L TR) 1) (v I 3))), a (f (s (ix (v (L TR) 1) (v I 3)))), a (s (s (ix (v (L TR) 1) (v I 3)))), a (v (L I) 101024)]
      (.ite (lt (v I 3) (v I 2))
       (.guard (le (c 0) (v I 3))
        (.guard (lt (v I 3) (ln (v (L I) 1)))
         (.guard (le (c 0) (v I 3))
          (.guard (lt (v I 3) (ln (v (L (L T4)) 8)))
           (.call f_impl_eval [a (ix (v (L (L T4)) 8) (v I 3)), a (v (L I) 0)] 909
            (.guard (le (c 0) (ix (v (L I) 1) (v I 3)))
             (.guard (lt (ix (v (L I) 1) (v I 3)) (ln (v (L I) 9)))
              (.jump 0 [a (v (L I) 0), a (v (L I) 1), a (v I 2), a (add (v I 3) (c 1)), a (v (L V3) 4), a (v (L TR) 5), a (v (L T4) 6), a (v (L I) 7), a (v (L (L T4)) 8), a (st (v (L I) 9) (ix (v (L I) 1) (v I 3)) (v I 909))]))))))))
       (.call f_impl_inRange [a (v (L V3) 4), a (v (L TR) 5), a (v (L I) 9)] 205
        (.ite (nt (v B 205))
         (.ret [a (nl I), a (k false)])
         (.ret [a (v (L I) 9), a (k true)])))))))))
def tr_cmp_isNaN_int : Tr := .ret [a (ne (v I 0) (v I 0))]
def tr_cmp_Compare_int : Tr := .call f_cmp_isNaN_int [a (v I 0)] 100128
 (.call f_cmp_isNaN_int [a (v I 1)] 100320
  (.ite (v B 100128)
   (.ite (v B 100320)
    (.ret [a (c 0)])
    (.ret [a (c (-1))]))
   (.ite (v B 100320)
    (.ret [a (c 1)])
    (.ite (lt (v I 0) (v I 1))
     (.ret [a (c (-1))])
     (.ite (gt (v I 0) (v I 1))
      (.ret [a (c 1)])
      (.ret [a (c 0)]))))))
def tr_slices_Compare_Sint_int : Tr := .loop [a (v (L I) 0), a (v (L I) 1), a (v (L I) 0), a (ln (v (L I) 0)), a (c 0)]
 (.ite (lt (v I 4) (v I 3))
  (.guard (le (c 0) (v I 4))
   (.guard (lt (v I 4) (ln (v (L I) 2)))
    (.ite (ge (v I 4) (ln (v (L I) 1)))
     (.ret [a (c 1)])
     (.guard (le (c 0) (v I 4))
      (.guard (lt (v I 4) (ln (v (L I) 1)))
       (.call f_cmp_Compare_int [a (ix (v (L I) 2) (v I 4)), a (ix (v (L I) 1) (v I 4))] 1093
        (.ite (ne (v I 1093) (c 0))
         (.ret [a (v I 1093)])
         (.jump 0 [a (v (L I) 0), a (v (L I) 1), a (v (L I) 2), a (v I 3), a (add (v I 4) (c 1))]))))))))
  (.ite (lt (ln (v (L I) 0)) (ln (v (L I) 1)))
   (.ret [a (c (-1))])
   (.ret [a (c 0)])))
def tr_slices_Reverse_SSint_Sint : Tr := .loop [a (c 0), a (sub (ln (v (L (L I)) 0)) (c 1)), a (v (L (L I)) 0)]
 (.ite (lt (v I 0) (v I 1))
  (.guard (le (c 0) (v I 1))
   (.guard (lt (v I 1) (ln (v (L (L I)) 2)))
    (.guard (le (c 0) (v I 0))
     (.guard (lt (v I 0) (ln (v (L (L I)) 2)))
      (.guard (le (c 0) (v I 0))
       (.guard (lt (v I 0) (ln (v (L (L I)) 2)))
        (.guard (le (c 0) (v I 1))
         (.guard (lt (v I 1) (ln (st (v (L (L I)) 2) (v I 0) (ix (v (L (L I)) 2) (v I 1)))))
          (.jump 0 [a (add (v I 0) (c 1)), a (sub (v I 1) (c 1)), a (st (st (v (L (L I)) 2) (v I 0) (ix (v (L (L I)) 2) (v I 1))) (v I 1) (ix (v (L (L I)) 2) (v I 0)))])))))))))
  (.ret []))
def tr_impl_clone_Sint : Tr := .ite (eq (ln (v (L (L I)) 0)) (c 0))
 (.ret [a (nl (L I))])
 (.guard (le (c 0) (ln (v (L (L I)) 0)))
  (.guard (le (ln (v (L (L I)) 0)) (c 549755813888))
   (.ret [a (over (rep (ln (v (L (L I)) 0)) (z (L I))) (v (L (L I)) 0))])))
def tr_impl_nextStates : Tr := .loop [a (v (L I) 2), a (ln (v (L TR) 1)), a (c 0), a (v (L V3) 0), a (v (L TR) 1), a (nl (L I))]
 (.ite (lt (v I 2) (v I 1))
  (.join
   (.call f_impl_use [a (v (L V3) 3), a (v (L TR) 4), a (v (L I) 0), a (v I 2)] 392
    (.ite (v B 393)
     (.join
      (.loop [a (ln (v (L (L I)) 5)), a (c 0), a (ln (v (L (L I)) 5)), a (v (L I) 0), a (v I 1), a (v I 2), a (v (L (L I)) 5), a (v (L I) 392), a (v (L V3) 3), a (v (L TR) 4)]
       (.ite (lt (v I 1) (v I 2))
        (.guard (le (c 0) (.o1 (.conv .u64 .i64) (.o2 (.sh false .u64 .u64) (.o1 (.conv .i64 .u64) (add (v I 1) (v I 2))) (.int .u64 1))))
         (.guard (lt (.o1 (.conv .u64 .i64) (.o2 (.sh false .u64 .u64) (.o1 (.conv .i64 .u64) (add (v I 1) (v I 2))) (.int .u64 1))) (ln (v (L (L I)) 6)))
          (.call f_slices_Compare_Sint_int [a (ix (v (L (L I)) 6) (.o1 (.conv .u64 .i64) (.o2 (.sh false .u64 .u64) (.o1 (.conv .i64 .u64) (add (v I 1) (v I 2))) (.int .u64 1)))), a (v (L I) 7)] 1037
           (.ite (lt (v I 1037) (c 0))
            (.jump 0 [a (v I 0), a (add (.o1 (.conv .u64 .i64) (.o2 (.sh false .u64 .u64) (.o1 (.conv .i64 .u64) (add (v I 1) (v I 2))) (.int .u64 1))) (c 1)), a (v I 2), a (v (L I) 3), a (v I 4), a (v I 5), a (v (L (L I)) 6), a (v (L I) 7), a (v (L V3) 8), a (v (L TR) 9)])
            (.jump 0 [a (v I 0), a (v I 1), a (.o1 (.conv .u64 .i64) (.o2 (.sh false .u64 .u64) (.o1 (.conv .i64 .u64) (add (v I 1) (v I 2))) (.int .u64 1))), a (v (L I) 3), a (v I 4), a (v I 5), a (v (L (L I)) 6), a (v (L I) 7), a (v (L V3) 8), a (v (L TR) 9)])))))
        (.ite (lt (v I 1) (v I 0))
         (.guard (le (c 0) (v I 1))
          (.guard (lt (v I 1) (ln (v (L (L I)) 6)))
           (.call f_slices_Compare_Sint_int [a (ix (v (L (L I)) 6) (v I 1)), a (v (L I) 7)] 909
            (.jump 1 [a (v (L I) 3), a (v I 1), a (eq (v I 909) (c 0)), a (v I 4), a (v I 5), a (v (L V3) 8), a (v (L TR) 9), a (v (L (L I)) 6), a (v (L I) 7)]))))
         (.jump 1 [a (v (L I) 3), a (v I 1), a (k false), a (v I 4), a (v I 5), a (v (L V3) 8), a (v (L TR) 9), a (v (L (L I)) 6), a (v (L I) 7)]))))
      (.ite (nt (v B 2))
       (.guard (le (c 0) (v I 1))
        (.guard (le (v I 1) (ln (v (L (L I)) 7)))
         (.guard (le (ln (v (L (L I)) 7)) (c 549755813888))
          (.guard (eq (ln (one (v (L I) 8))) (c 1))
           (.jump 0 [a (v (L I) 0), a (v I 3), a (v I 4), a (v (L V3) 5), a (v (L TR) 6), a (app (app (take (v (L (L I)) 7) (v I 1)) (one (v (L I) 8))) (drop (v (L (L I)) 7) (v I 1)))])))))
       (.jump 0 [a (v (L I) 0), a (v I 3), a (v I 4), a (v (L V3) 5), a (v (L TR) 6), a (v (L (L I)) 7)])))
     (.jump 0 [a (v (L I) 0), a (v I 1), a (v I 2), a (v (L V3) 3), a (v (L TR) 4), a (v (L (L I)) 5)])))
   (.jump 0 [a (v (L I) 0), a (v I 1), a (add (v I 2) (c 1)), a (v (L V3) 3), a (v (L TR) 4), a (v (L (L I)) 5)]))
  (.call f_impl_clone_Sint [a (v (L (L I)) 5)] 136
   (.ret [a (v (L (L I)) 136)])))
def tr_impl_number : Tr := .loop [a (v (L I) 2), a (c 0), a (v (L V3) 0), a (ln (v (L V3) 0)), a (c 0)]
 (.ite (lt (v I 4) (v I 3))
  (.guard (le (c 0) (v I 4))
   (.guard (lt (v I 4) (ln (v (L V3) 2)))
    (.guard (le (c 0) (v I 4))
     (.guard (lt (v I 4) (ln (v (L I) 0)))
      (.jump 0 [a (v (L I) 0), a (sub (add (mul (v I 1) (add (sub (f (s (ix (v (L V3) 2) (v I 4)))) (f (ix (v (L V3) 2) (v I 4)))) (c 1))) (ix (v (L I) 0) (v I 4))) (f (ix (v (L V3) 2) (v I 4)))), a (v (L V3) 2), a (v I 3), a (add (v I 4) (c 1))])))))
  (.ret [a (v I 1)]))
def tr_impl_nexts : Tr := .call f_impl_size [a (v (L V3) 0)] 100256
 (.guard (le (c 0) (v I 100256))
  (.guard (le (v I 100256) (c 549755813888))
   (.loop [a (ln (rep (v I 100256) (z (L I)))), a (c 0), a (v (L V3) 0), a (v (L TR) 1), a (rep (v I 100256) (z (L I)))]
    (.ite (lt (v I 1) (v I 0))
     (.call f_impl_stateAt [a (v (L V3) 2), a (v (L TR) 3), a (v I 1)] 455
      (.call f_impl_nextStates [a (v (L V3) 2), a (v (L TR) 3), a (v (L I) 455)] 519
       (.loop [a (v I 1), a (v I 0), a (v I 1), a (ln (v (L (L I)) 519)), a (c 0), a (v (L V3) 2), a (v (L TR) 3), a (v (L (L I)) 4), a (v (L (L I)) 519)]
        (.ite (lt (v I 4) (v I 3))
         (.guard (le (c 0) (v I 4))
          (.guard (lt (v I 4) (ln (v (L (L I)) 8)))
           (.guard (le (c 0) (v I 0))
            (.guard (lt (v I 0) (ln (v (L (L I)) 7)))
             (.call f_impl_number [a (v (L V3) 5), a (v (L TR) 6), a (ix (v (L (L I)) 8) (v I 4))] 780
              (.guard (le (ln (ix (v (L (L I)) 7) (v I 0))) (c 549755813888))
               (.guard (le (ln (one (v I 780))) (c 549755813888))
                (.guard (le (c 0) (v I 0))
                 (.guard (lt (v I 0) (ln (v (L (L I)) 7)))
                  (.jump 0 [a (v I 0), a (v I 1), a (v I 2), a (v I 3), a (add (v I 4) (c 1)), a (v (L V3) 5), a (v (L TR) 6), a (st (v (L (L I)) 7) (v I 0) (app (ix (v (L (L I)) 7) (v I 0)) (one (v I 780)))), a (v (L (L I)) 8)]))))))))))
         (.jump 1 [a (v I 1), a (add (v I 2) (c 1)), a (v (L V3) 5), a (v (L TR) 6), a (v (L (L I)) 7)])))))
     (.ret [a (v (L (L I)) 4)])))))
def tr_impl_StepsCount : Tr := .call f_impl_halfNarrow [a (v (L V3) 0), a (v (L TR) 1)] 100192
 (.ite (nt (v B 100192))
  (.ret [a (c (-1))])
  (.call f_impl_nexts [a (v (L V3) 0), a (v (L TR) 1)] 100448
   (.loop [a (c 0), a (ln (v (L (L I)) 100448)), a (c 0), a (v (L (L I)) 100448)]
    (.ite (lt (v I 2) (v I 1))
     (.guard (le (c 0) (v I 2))
      (.guard (lt (v I 2) (ln (v (L (L I)) 3)))
       (.jump 0 [a (add (v I 0) (ln (ix (v (L (L I)) 3) (v I 2)))), a (v I 1), a (add (v I 2) (c 1)), a (v (L (L I)) 3)])))
     (.ret [a (v I 0)])))))
def tr_spec_l40Open : Tr := .join
 (.ite (gt (ln (v (L U) 0)) (c 2000))
  (.guard (le (c 2000) (ln (re false (v (L U) 0))))
   (.jump 0 [a (take (re false (v (L U) 0)) (c 2000))]))
  (.jump 0 [a (v (L U) 0)]))
 (.ret [a (pr (v (L U) 0) (c 0))])
def tr_spec_l40Rd_pick : Tr := .ite (lt (v I 1) (c 1))
 (.ret [a (c 0), a (pr (f (v (P (L U) I) 0)) (add (s (v (P (L U) I) 0)) (c 1)))])
 (.ite (eq (ln (f (v (P (L U) I) 0))) (c 0))
  (.ret [a (c 0), a (pr (f (v (P (L U) I) 0)) (add (s (v (P (L U) I) 0)) (c 1)))])
  (.ite (lt (sub (add (s (v (P (L U) I) 0)) (c 1)) (c 1)) (ln (f (v (P (L U) I) 0))))
   (.guard (le (c 0) (sub (add (s (v (P (L U) I) 0)) (c 1)) (c 1)))
    (.guard (lt (sub (add (s (v (P (L U) I) 0)) (c 1)) (c 1)) (ln (f (v (P (L U) I) 0))))
     (.guard (ne (v I 1) (c 0))
      (.ret [a (rem (.o1 (.conv .u8 .i64) (ix (f (v (P (L U) I) 0)) (sub (add (s (v (P (L U) I) 0)) (c 1)) (c 1)))) (v I 1)), a (pr (f (v (P (L U) I) 0)) (add (s (v (P (L U) I) 0)) (c 1)))]))))
   (.guard (ne (ln (f (v (P (L U) I) 0))) (c 0))
    (.guard (le (c 0) (rem (sub (add (s (v (P (L U) I) 0)) (c 1)) (c 1)) (ln (f (v (P (L U) I) 0)))))
     (.guard (lt (rem (sub (add (s (v (P (L U) I) 0)) (c 1)) (c 1)) (ln (f (v (P (L U) I) 0)))) (ln (f (v (P (L U) I) 0))))
      (.guard (ne (ln (f (v (P (L U) I) 0))) (c 0))
       (.guard (le (c 0) (rem (add (mul (sub (add (s (v (P (L U) I) 0)) (c 1)) (c 1)) (c 7)) (c 3)) (ln (f (v (P (L U) I) 0)))))
        (.guard (lt (rem (add (mul (sub (add (s (v (P (L U) I) 0)) (c 1)) (c 1)) (c 7)) (c 3)) (ln (f (v (P (L U) I) 0)))) (ln (f (v (P (L U) I) 0))))
         (.guard (ne (ln (f (v (P (L U) I) 0))) (c 0))
          (.guard (ne (v I 1) (c 0))
           (.ret [a (rem (ar .xor (add (add (add (mul (.o1 (.conv .u8 .i64) (ix (f (v (P (L U) I) 0)) (rem (sub (add (s (v (P (L U) I) 0)) (c 1)) (c 1)) (ln (f (v (P (L U) I) 0)))))) (c 131)) (mul (.o1 (.conv .u8 .i64) (ix (f (v (P (L U) I) 0)) (rem (add (mul (sub (add (s (v (P (L U) I) 0)) (c 1)) (c 1)) (c 7)) (c 3)) (ln (f (v (P (L U) I) 0)))))) (c 1117))) (mul (sub (add (s (v (P (L U) I) 0)) (c 1)) (c 1)) (c 29))) (mul (quo (sub (add (s (v (P (L U) I) 0)) (c 1)) (c 1)) (ln (f (v (P (L U) I) 0)))) (c 53))) (quo (add (add (add (mul (.o1 (.conv .u8 .i64) (ix (f (v (P (L U) I) 0)) (rem (sub (add (s (v (P (L U) I) 0)) (c 1)) (c 1)) (ln (f (v (P (L U) I) 0)))))) (c 131)) (mul (.o1 (.conv .u8 .i64) (ix (f (v (P (L U) I) 0)) (rem (add (mul (sub (add (s (v (P (L U) I) 0)) (c 1)) (c 1)) (c 7)) (c 3)) (ln (f (v (P (L U) I) 0)))))) (c 1117))) (mul (sub (add (s (v (P (L U) I) 0)) (c 1)) (c 1)) (c 29))) (mul (quo (sub (add (s (v (P (L U) I) 0)) (c 1)) (c 1)) (ln (f (v (P (L U) I) 0)))) (c 53))) (c 64))) (v I 1)), a (pr (f (v (P (L U) I) 0)) (add (s (v (P (L U) I) 0)) (c 1)))])))))))))))
def tr_spec_l40Rd_num : Tr := .call f_spec_l40Rd_pick [a (pr (f (v (P (L U) I) 0)) (s (v (P (L U) I) 0))), a (ln (v (L I) 1))] 100320
 (.guard (le (c 0) (v I 100320))
  (.guard (lt (v I 100320) (ln (v (L I) 1)))
   (.ret [a (ix (v (L I) 1) (v I 100320)), a (pr (f (v (P (L U) I) 0)) (s (v (P (L U) I) 100321)))])))
def tr_spec_l2VarOf : Tr := .ret [a (c 1), a (v I 0), a (c 0), a (c 0)]
def tr_spec_l2Const : Tr := .ret [a (c 0), a (v I 0), a (c 0), a (c 0)]
def tr_spec_l2Cond : Tr := .call f_spec_l40Rd_pick [a (pr (f (v (P (L U) I) 0)) (s (v (P (L U) I) 0))), a (add (sub (v I 2) (v I 1)) (c 1))] 100704
 (.join
  (.jump 0 [a (v I 4), a (add (v I 1) (v I 100704)), a (f (v (P (L U) I) 0)), a (s (v (P (L U) I) 100705))])
  (.call f_spec_l40Rd_num [a (pr (v (L U) 2) (v I 3)), a (app (one (c 6)) (app (one (c 5)) (app (one (c 5)) (one (c 6)))))] 133
   (.call f_spec_l2VarOf [a (v I 0)] 325
    (.call f_spec_l2Const [a (v I 1)] 453
     (.join
      (.call f_spec_l40Rd_pick [a (pr (v (L U) 2) (s (v (P (L U) I) 134))), a (c 3)] 837
       (.ite (eq (v I 837) (c 0))
        (.guard (le (ln (app (one (pr (v I 325) (pr (v I 326) (pr (v I 327) (v I 328))))) (app (one (pr (v I 453) (pr (v I 454) (pr (v I 455) (v I 456))))) (one (pr (v I 133) (pr (c 0) (pr (c 0) (c 1)))))))) (c 549755813888))
         (.guard (le (ln (one (pr (c 7) (pr (c 0) (pr (c 2) (c 2)))))) (c 549755813888))
          (.jump 0 [a (v (L U) 2), a (s (v (P (L U) I) 838)), a (app (app (one (pr (v I 325) (pr (v I 326) (pr (v I 327) (v I 328))))) (app (one (pr (v I 453) (pr (v I 454) (pr (v I 455) (v I 456))))) (one (pr (v I 133) (pr (c 0) (pr (c 0) (c 1))))))) (one (pr (c 7) (pr (c 0) (pr (c 2) (c 2))))))])))
        (.jump 0 [a (v (L U) 2), a (s (v (P (L U) I) 838)), a (app (one (pr (v I 325) (pr (v I 326) (pr (v I 327) (v I 328))))) (app (one (pr (v I 453) (pr (v I 454) (pr (v I 455) (v I 456))))) (one (pr (v I 133) (pr (c 0) (pr (c 0) (c 1)))))))])))
      (.ret [a (v (L T4) 2), a (pr (v (L U) 0) (v I 1))]))))))
def tr_spec_TermsValid : Tr := .call f_spec_KindsOf [a (v (L T4) 0), a (v I 1)] 100192
 (.ret [a (gt (ln (v (L I) 100192)) (c 0))])
def tr_spec_l1Moved : Tr := .ite (ge (v I 0) (c 2))
 (.ret [a (v I 0), a (c 0), a (add (v I 2) (v I 4)), a (add (v I 3) (v I 4))])
 (.ret [a (v I 0), a (v I 1), a (v I 2), a (v I 3)])
def tr_spec_Joined : Tr := .call f_spec_TermsValid [a (v (L T4) 1), a (v I 3)] 100192
 (.ite (nt (v B 100192))
  (.ret [a (nl T4)])
  (.call f_spec_TermsValid [a (v (L T4) 2), a (v I 3)] 100512
   (.ite (nt (v B 100512))
    (.ret [a (nl T4)])
    (.loop [a (v I 0), a (v (L T4) 1), a (v (L T4) 2), a (v I 3), a (c 0), a (nl T4)]
     (.ite (lt (v I 4) (ln (v (L T4) 1)))
      (.guard (le (c 0) (v I 4))
       (.guard (lt (v I 4) (ln (v (L T4) 1)))
        (.guard (le (ln (v (L T4) 5)) (c 549755813888))
         (.guard (le (ln (one (pr (f (ix (v (L T4) 1) (v I 4))) (pr (f (s (ix (v (L T4) 1) (v I 4)))) (pr (f (s (s (ix (v (L T4) 1) (v I 4))))) (s (s (s (ix (v (L T4) 1) (v I 4)))))))))) (c 549755813888))
          (.jump 0 [a (v I 0), a (v (L T4) 1), a (v (L T4) 2), a (v I 3), a (add (v I 4) (c 1)), a (app (v (L T4) 5) (one (pr (f (ix (v (L T4) 1) (v I 4))) (pr (f (s (ix (v (L T4) 1) (v I 4)))) (pr (f (s (s (ix (v (L T4) 1) (v I 4))))) (s (s (s (ix (v (L T4) 1) (v I 4))))))))))])))))
      (.join
       (.loop [a (v I 0), a (v (L T4) 1), a (v (L T4) 2), a (v I 3), a (c 0), a (v (L T4) 5)]
        (.ite (lt (v I 4) (ln (v (L T4) 2)))
         (.call f_spec_l1One [a (v I 0)] 391
          (.ite (nt (v B 391))
           (.guard (le (c 0) (v I 4))
            (.guard (lt (v I 4) (ln (v (L T4) 2)))
             (.call f_spec_l1Moved [a (f (ix (v (L T4) 2) (v I 4))), a (f (s (ix (v (L T4) 2) (v I 4)))), a (f (s (s (ix (v (L T4) 2) (v I 4))))), a (s (s (s (ix (v (L T4) 2) (v I 4))))), a (ln (v (L T4) 1))] 1031
              (.guard (le (ln (v (L T4) 5)) (c 549755813888))
               (.guard (le (ln (one (pr (v I 1031) (pr (v I 1032) (pr (v I 1033) (v I 1034)))))) (c 549755813888))
                (.jump 0 [a (v I 0), a (v (L T4) 1), a (v (L T4) 2), a (v I 3), a (add (v I 4) (c 1)), a (app (v (L T4) 5) (one (pr (v I 1031) (pr (v I 1032) (pr (v I 1033) (v I 1034))))))]))))))
           (.jump 1 [a (v I 0), a (v (L T4) 1), a (v I 3), a (v (L T4) 5)])))
         (.jump 1 [a (v I 0), a (v (L T4) 1), a (v I 3), a (v (L T4) 5)])))
       (.guard (le (ln (v (L T4) 3)) (c 549755813888))
        (.guard (le (ln (one (pr (v I 0) (pr (c 0) (pr (sub (ln (v (L T4) 1)) (c 1)) (sub (ln (v (L T4) 3)) (c 1))))))) (c 549755813888))
         (.ite (lt (v I 0) (c 2))
          (.ret [a (nl T4)])
          (.call f_spec_TermsValid [a (app (v (L T4) 3) (one (pr (v I 0) (pr (c 0) (pr (sub (ln (v (L T4) 1)) (c 1)) (sub (ln (v (L T4) 3)) (c 1))))))), a (v I 2)] 1093
           (.ite (nt (v B 1093))
            (.ret [a (nl T4)])
            (.ret [a (app (v (L T4) 3) (one (pr (v I 0) (pr (c 0) (pr (sub (ln (v (L T4) 1)) (c 1)) (sub (ln (v (L T4) 3)) (c 1)))))))]))))))))))))
def tr_spec_l2When : Tr := .call f_spec_l40Rd_pick [a (pr (f (v (P (L U) I) 0)) (s (v (P (L U) I) 0))), a (ln (v (L V3) 1))] 100256
 (.guard (le (c 0) (v I 100256))
  (.guard (lt (v I 100256) (ln (v (L V3) 1)))
   (.call f_spec_l2Cond [a (pr (f (v (P (L U) I) 0)) (s (v (P (L U) I) 100257))), a (f (ix (v (L V3) 1) (v I 100256))), a (f (s (ix (v (L V3) 1) (v I 100256)))), a (s (s (ix (v (L V3) 1) (v I 100256)))), a (v I 100256)] 100768
    (.join
     (.call f_spec_l40Rd_pick [a (pr (f (v (P (L U) I) 0)) (s (v (P (L U) I) 100769))), a (c 2)] 100960
      (.ite (eq (v I 100960) (c 0))
       (.call f_spec_l40Rd_pick [a (pr (f (v (P (L U) I) 0)) (s (v (P (L U) I) 100961))), a (ln (v (L V3) 1))] 101280
        (.guard (le (c 0) (v I 101280))
         (.guard (lt (v I 101280) (ln (v (L V3) 1)))
          (.call f_spec_l40Rd_num [a (pr (f (v (P (L U) I) 0)) (s (v (P (L U) I) 101281))), a (app (one (c 8)) (app (one (c 9)) (one (c 8))))] 102048
           (.call f_spec_l2Cond [a (pr (f (v (P (L U) I) 0)) (s (v (P (L U) I) 102049))), a (f (ix (v (L V3) 1) (v I 101280))), a (f (s (ix (v (L V3) 1) (v I 101280)))), a (s (s (ix (v (L V3) 1) (v I 101280)))), a (v I 101280)] 102176
            (.call f_spec_Joined [a (v I 102048), a (v (L T4) 100768), a (v (L T4) 102176), a (ln (v (L V3) 1))] 102240
             (.join
              (.jump 0 [a (f (v (P (L U) I) 0)), a (s (v (P (L U) I) 102177)), a (v (L T4) 102240)])
              (.jump 0 [a (v (L U) 0), a (v I 1), a (v (L T4) 2)]))))))))
       (.jump 0 [a (f (v (P (L U) I) 0)), a (s (v (P (L U) I) 100961)), a (v (L T4) 100768)])))
     (.ret [a (v (L T4) 2), a (pr (v (L U) 0) (v I 1))])))))
def tr_spec_l1Number : Tr := .call f_spec_l40Rd_pick [a (pr (f (v (P (L U) I) 0)) (s (v (P (L U) I) 0))), a (c 4)] 100192
 (.call f_spec_l40Rd_pick [a (pr (f (v (P (L U) I) 0)) (s (v (P (L U) I) 100193))), a (c 4)] 100320
  (.call f_spec_l40Rd_pick [a (pr (f (v (P (L U) I) 0)) (s (v (P (L U) I) 100321))), a (c 7)] 100448
   (.call f_spec_l40Rd_pick [a (pr (f (v (P (L U) I) 0)) (s (v (P (L U) I) 100449))), a (c 200)] 100640
    (.call f_spec_l40Rd_pick [a (pr (f (v (P (L U) I) 0)) (s (v (P (L U) I) 100641))), a (c 4)] 100896
     (.guard (le (c 0) (v I 100896))
      (.guard (lt (v I 100896) (ln (app (one (c 9999)) (app (one (c (-9999))) (app (one (c 5000)) (one (c 100)))))))
       (.call f_spec_l40Rd_num [a (pr (f (v (P (L U) I) 0)) (s (v (P (L U) I) 100897))), a (app (one (v I 100192)) (app (one (v I 100320)) (app (one (sub (v I 100448) (c 3))) (app (one (c 1)) (app (one (c 0)) (app (one (sub (v I 100640) (c 100))) (one (ix (app (one (c 9999)) (app (one (c (-9999))) (app (one (c 5000)) (one (c 100))))) (v I 100896)))))))))] 101152
        (.ret [a (v I 101152), a (pr (f (v (P (L U) I) 0)) (s (v (P (L U) I) 101153)))]))))))))
def tr_spec_l1Pick : Tr := .call f_spec_l40Rd_pick [a (pr (f (v (P (L U) I) 0)) (s (v (P (L U) I) 0))), a (ln (v (L I) 1))] 100256
 (.loop [a (v (L I) 1), a (v I 2), a (v I 100256), a (c 0), a (f (v (P (L U) I) 0)), a (s (v (P (L U) I) 100257))]
  (.ite (lt (v I 3) (ln (v (L I) 0)))
   (.guard (ne (ln (v (L I) 0)) (c 0))
    (.guard (le (c 0) (rem (add (v I 2) (v I 3)) (ln (v (L I) 0))))
     (.guard (lt (rem (add (v I 2) (v I 3)) (ln (v (L I) 0))) (ln (v (L I) 0)))
      (.ite (eq (ix (v (L I) 0) (rem (add (v I 2) (v I 3)) (ln (v (L I) 0)))) (v I 1))
       (.ret [a (rem (add (v I 2) (v I 3)) (ln (v (L I) 0))), a (pr (v (L U) 4) (v I 5))])
       (.jump 0 [a (v (L I) 0), a (v I 1), a (v I 2), a (add (v I 3) (c 1)), a (v (L U) 4), a (v I 5)])))))
   (.ret [a (c (-1)), a (pr (v (L U) 4) (v I 5))])))
def tr_spec_l1Terms : Tr := .call f_spec_l40Rd_pick [a (pr (f (v (P (L U) I) 0)) (s (v (P (L U) I) 0))), a (v I 3)] 100448
 (.loop [a (v I 1), a (v I 2), a (add (c 2) (v I 100448)), a (f (v (P (L U) I) 0)), a (s (v (P (L U) I) 100449)), a (nl T4), a (nl I)]
  (.ite (gt (v I 2) (c 0))
   (.join
    (.call f_spec_l40Rd_num [a (pr (v (L U) 3) (v I 4)), a (app (one (c 0)) (app (one (c 1)) (app (one (c 1)) (app (one (c 2)) (app (one (c 3)) (app (one (c 4)) (app (one (c 5)) (app (one (c 6)) (app (one (c 5)) (app (one (c 6)) (app (one (c 7)) (app (one (c 8)) (one (c 9))))))))))))))] 266
     (.join
      (.ite (eq (ln (v (L T4) 5)) (c 0))
       (.call f_spec_l1Number [a (pr (v (L U) 3) (s (v (P (L U) I) 267)))] 1162
        (.ite (gt (v I 0) (c 0))
         (.ite (ne (v I 266) (c 0))
          (.call f_spec_l40Rd_pick [a (pr (v (L U) 3) (s (v (P (L U) I) 1163))), a (v I 0)] 1866
           (.jump 0 [a (v I 0), a (v I 1), a (v I 2), a (v (L U) 3), a (s (v (P (L U) I) 1867)), a (v (L T4) 5), a (v (L I) 6), a (c 1), a (v I 1866), a (c 0), a (c 0)]))
          (.jump 0 [a (v I 0), a (v I 1), a (v I 2), a (v (L U) 3), a (s (v (P (L U) I) 1163)), a (v (L T4) 5), a (v (L I) 6), a (c 0), a (v I 1162), a (c 0), a (c 0)]))
         (.jump 0 [a (v I 0), a (v I 1), a (v I 2), a (v (L U) 3), a (s (v (P (L U) I) 1163)), a (v (L T4) 5), a (v (L I) 6), a (c 0), a (v I 1162), a (c 0), a (c 0)])))
       (.ite (lt (v I 266) (c 2))
        (.call f_spec_l1Number [a (pr (v (L U) 3) (s (v (P (L U) I) 267)))] 1162
         (.ite (gt (v I 0) (c 0))
          (.ite (ne (v I 266) (c 0))
           (.call f_spec_l40Rd_pick [a (pr (v (L U) 3) (s (v (P (L U) I) 1163))), a (v I 0)] 1866
            (.jump 0 [a (v I 0), a (v I 1), a (v I 2), a (v (L U) 3), a (s (v (P (L U) I) 1867)), a (v (L T4) 5), a (v (L I) 6), a (c 1), a (v I 1866), a (c 0), a (c 0)]))
           (.jump 0 [a (v I 0), a (v I 1), a (v I 2), a (v (L U) 3), a (s (v (P (L U) I) 1163)), a (v (L T4) 5), a (v (L I) 6), a (c 0), a (v I 1162), a (c 0), a (c 0)]))
          (.jump 0 [a (v I 0), a (v I 1), a (v I 2), a (v (L U) 3), a (s (v (P (L U) I) 1163)), a (v (L T4) 5), a (v (L I) 6), a (c 0), a (v I 1162), a (c 0), a (c 0)])))
        (.join
         (.ite (ge (v I 266) (c 7))
          (.jump 0 [a (v I 0), a (v I 1), a (v I 2), a (v I 266), a (c 2), a (v (L U) 3), a (s (v (P (L U) I) 267)), a (v (L T4) 5), a (v (L I) 6), a (v I 266), a (c 0), a (c 0), a (c 0)])
          (.jump 0 [a (v I 0), a (v I 1), a (v I 2), a (v I 266), a (c 1), a (v (L U) 3), a (s (v (P (L U) I) 267)), a (v (L T4) 5), a (v (L I) 6), a (v I 266), a (c 0), a (c 0), a (c 0)]))
         (.call f_spec_l1Pick [a (pr (v (L U) 5) (v I 6)), a (v (L I) 8), a (v I 4)] 209
          (.call f_spec_l1Pick [a (pr (v (L U) 5) (s (v (P (L U) I) 210))), a (v (L I) 8), a (v I 4)] 593
           (.call f_spec_l1One [a (v I 3)] 849
            (.ite (v B 849)
             (.jump 0 [a (v I 0), a (v I 1), a (v I 2), a (v (L U) 5), a (s (v (P (L U) I) 594)), a (v (L T4) 7), a (v (L I) 8), a (v I 9), a (v I 10), a (v I 209), a (v I 209)])
             (.jump 0 [a (v I 0), a (v I 1), a (v I 2), a (v (L U) 5), a (s (v (P (L U) I) 594)), a (v (L T4) 7), a (v (L I) 8), a (v I 9), a (v I 10), a (v I 209), a (v I 593)]))))))))
      (.call f_spec_l1Kind [a (v I 7), a (v I 8), a (v I 9), a (v I 10), a (v (L I) 6), a (v I 0)] 207
       (.ite (ne (v I 207) (c 0))
        (.guard (le (ln (v (L T4) 5)) (c 549755813888))
         (.guard (le (ln (one (pr (v I 7) (pr (v I 8) (pr (v I 9) (v I 10)))))) (c 549755813888))
          (.guard (le (ln (v (L I) 6)) (c 549755813888))
           (.guard (le (ln (one (v I 207))) (c 549755813888))
            (.jump 0 [a (v I 0), a (v I 1), a (v I 2), a (v (L U) 3), a (v I 4), a (app (v (L T4) 5) (one (pr (v I 7) (pr (v I 8) (pr (v I 9) (v I 10)))))), a (app (v (L I) 6) (one (v I 207)))])))))
        (.jump 0 [a (v I 0), a (v I 1), a (v I 2), a (v (L U) 3), a (v I 4), a (v (L T4) 5), a (v (L I) 6)])))))
    (.jump 0 [a (v I 0), a (v I 1), a (sub (v I 2) (c 1)), a (v (L U) 3), a (v I 4), a (v (L T4) 5), a (v (L I) 6)]))
   (.join
    (.ite (eq (ln (v (L T4) 5)) (c 0))
     (.guard (le (ln (v (L T4) 5)) (c 549755813888))
      (.guard (le (ln (one (pr (c 0) (pr (c 1) (pr (c 0) (c 0)))))) (c 549755813888))
       (.guard (le (ln (v (L I) 6)) (c 549755813888))
        (.guard (le (ln (one (c 1))) (c 549755813888))
         (.jump 0 [a (v I 1), a (v (L U) 3), a (v I 4), a (app (v (L T4) 5) (one (pr (c 0) (pr (c 1) (pr (c 0) (c 0)))))), a (app (v (L I) 6) (one (c 1)))])))))
     (.jump 0 [a (v I 1), a (v (L U) 3), a (v I 4), a (v (L T4) 5), a (v (L I) 6)]))
    (.join
     (.ite (eq (v I 0) (c 2))
      (.guard (le (c 0) (sub (ln (v (L T4) 3)) (c 1)))
       (.guard (lt (sub (ln (v (L T4) 3)) (c 1)) (ln (v (L I) 4)))
        (.ite (ne (ix (v (L I) 4) (sub (ln (v (L T4) 3)) (c 1))) (v I 0))
         (.call f_spec_l40Rd_num [a (pr (v (L U) 1) (v I 2)), a (app (one (c 5)) (one (c 6)))] 1096
          (.call f_spec_l1Pick [a (pr (v (L U) 1) (s (v (P (L U) I) 1097))), a (v (L I) 4), a (c 1)] 1352
           (.guard (le (ln (v (L T4) 3)) (c 549755813888))
            (.guard (le (ln (one (pr (v I 1096) (pr (c 0) (pr (sub (ln (v (L T4) 3)) (c 1)) (v I 1352)))))) (c 549755813888))
             (.jump 0 [a (v (L U) 1), a (s (v (P (L U) I) 1353)), a (app (v (L T4) 3) (one (pr (v I 1096) (pr (c 0) (pr (sub (ln (v (L T4) 3)) (c 1)) (v I 1352))))))])))))
         (.ite (eq (v I 0) (c 1))
          (.guard (le (c 0) (sub (ln (v (L T4) 3)) (c 1)))
           (.guard (lt (sub (ln (v (L T4) 3)) (c 1)) (ln (v (L I) 4)))
            (.ite (ne (ix (v (L I) 4) (sub (ln (v (L T4) 3)) (c 1))) (v I 0))
             (.call f_spec_l1Pick [a (pr (v (L U) 1) (v I 2)), a (v (L I) 4), a (c 1)] 1672
              (.call f_spec_l40Rd_num [a (pr (v (L U) 1) (s (v (P (L U) I) 1673))), a (app (one (c 2)) (one (c 3)))] 1992
               (.call f_spec_l1Pick [a (pr (v (L U) 1) (s (v (P (L U) I) 1993))), a (v (L I) 4), a (c 1)] 2248
                (.guard (le (ln (v (L T4) 3)) (c 549755813888))
                 (.guard (le (ln (one (pr (v I 1992) (pr (c 0) (pr (v I 1672) (v I 2248)))))) (c 549755813888))
                  (.jump 0 [a (v (L U) 1), a (s (v (P (L U) I) 2249)), a (app (v (L T4) 3) (one (pr (v I 1992) (pr (c 0) (pr (v I 1672) (v I 2248))))))]))))))
             (.jump 0 [a (v (L U) 1), a (v I 2), a (v (L T4) 3)]))))
          (.jump 0 [a (v (L U) 1), a (v I 2), a (v (L T4) 3)])))))
      (.ite (eq (v I 0) (c 1))
       (.guard (le (c 0) (sub (ln (v (L T4) 3)) (c 1)))
        (.guard (lt (sub (ln (v (L T4) 3)) (c 1)) (ln (v (L I) 4)))
         (.ite (ne (ix (v (L I) 4) (sub (ln (v (L T4) 3)) (c 1))) (v I 0))
          (.call f_spec_l1Pick [a (pr (v (L U) 1) (v I 2)), a (v (L I) 4), a (c 1)] 1672
           (.call f_spec_l40Rd_num [a (pr (v (L U) 1) (s (v (P (L U) I) 1673))), a (app (one (c 2)) (one (c 3)))] 1992
            (.call f_spec_l1Pick [a (pr (v (L U) 1) (s (v (P (L U) I) 1993))), a (v (L I) 4), a (c 1)] 2248
             (.guard (le (ln (v (L T4) 3)) (c 549755813888))
              (.guard (le (ln (one (pr (v I 1992) (pr (c 0) (pr (v I 1672) (v I 2248)))))) (c 549755813888))
               (.jump 0 [a (v (L U) 1), a (s (v (P (L U) I) 2249)), a (app (v (L T4) 3) (one (pr (v I 1992) (pr (c 0) (pr (v I 1672) (v I 2248))))))]))))))
          (.jump 0 [a (v (L U) 1), a (v I 2), a (v (L T4) 3)]))))
       (.jump 0 [a (v (L U) 1), a (v I 2), a (v (L T4) 3)])))
     (.ret [a (v (L T4) 2), a (pr (v (L U) 0) (v I 1))])))))
def tr_spec_l2Value : Tr := .call f_spec_l40Rd_pick [a (pr (f (v (P (L U) I) 0)) (s (v (P (L U) I) 0))), a (c 6)] 100128
 (.ite (lt (v I 100128) (c 3))
  (.call f_spec_l2VarOf [a (v I 2)] 100448
   (.call f_spec_l2Const [a (c 1)] 100512
    (.call f_spec_l40Rd_num [a (pr (f (v (P (L U) I) 0)) (s (v (P (L U) I) 100129))), a (app (one (c 2)) (one (c 3)))] 100704
     (.ret [a (app (one (pr (v I 100448) (pr (v I 100449) (pr (v I 100450) (v I 100451))))) (app (one (pr (v I 100512) (pr (v I 100513) (pr (v I 100514) (v I 100515))))) (one (pr (v I 100704) (pr (c 0) (pr (c 0) (c 1))))))), a (pr (f (v (P (L U) I) 0)) (s (v (P (L U) I) 100705)))]))))
  (.ite (eq (v I 100128) (c 3))
   (.guard (le (c 0) (v I 2))
    (.guard (lt (v I 2) (ln (v (L V3) 1)))
     (.guard (le (c 0) (v I 2))
      (.guard (lt (v I 2) (ln (v (L V3) 1)))
       (.guard (le (c 0) (v I 2))
        (.guard (lt (v I 2) (ln (v (L V3) 1)))
         (.call f_spec_l40Rd_pick [a (pr (f (v (P (L U) I) 0)) (s (v (P (L U) I) 100129))), a (add (sub (f (s (ix (v (L V3) 1) (v I 2)))) (f (ix (v (L V3) 1) (v I 2)))) (c 1))] 101664
          (.call f_spec_l2Const [a (add (f (ix (v (L V3) 1) (v I 2))) (v I 101664))] 101792
           (.join
            (.jump 0 [a (f (v (P (L U) I) 0)), a (s (v (P (L U) I) 101665)), a (one (pr (v I 101792) (pr (v I 101793) (pr (v I 101794) (v I 101795)))))])
            (.ret [a (v (L T4) 2), a (pr (v (L U) 0) (v I 1))]))))))))))
   (.ite (eq (v I 100128) (c 4))
    (.call f_spec_l40Rd_pick [a (pr (f (v (P (L U) I) 0)) (s (v (P (L U) I) 100129))), a (ln (v (L V3) 1))] 100832
     (.call f_spec_l2VarOf [a (v I 100832)] 100896
      (.ret [a (one (pr (v I 100896) (pr (v I 100897) (pr (v I 100898) (v I 100899))))), a (pr (f (v (P (L U) I) 0)) (s (v (P (L U) I) 100833)))])))
    (.call f_spec_l1Terms [a (pr (f (v (P (L U) I) 0)) (s (v (P (L U) I) 100129))), a (ln (v (L V3) 1)), a (c 1), a (c 5)] 100832
     (.ret [a (v (L T4) 100832), a (pr (f (v (P (L U) I) 0)) (s (v (P (L U) I) 100833)))])))))
def tr_spec_l2Rules : Tr := .loop [a (v (L V3) 1), a (v I 2), a (c 0), a (f (v (P (L U) I) 0)), a (s (v (P (L U) I) 0)), a (nl TR)]
 (.ite (lt (v I 2) (v I 1))
  (.call f_spec_l2When [a (pr (v (L U) 3) (v I 4)), a (v (L V3) 0)] 328
   (.loop [a (v (L V3) 0), a (v I 1), a (v I 2), a (c 0), a (v (L U) 3), a (s (v (P (L U) I) 329)), a (v (L TR) 5), a (v (L T4) 328), a (nl I), a (nl (L T4))]
    (.ite (lt (v I 3) (ln (v (L V3) 0)))
     (.join
      (.call f_spec_l40Rd_pick [a (pr (v (L U) 4) (v I 5)), a (add (ln (v (L V3) 0)) (c 1))] 528
       (.ite (lt (v I 528) (c 1))
        (.guard (le (ln (v (L I) 8)) (c 549755813888))
         (.guard (le (ln (one (v I 3))) (c 549755813888))
          (.call f_spec_l2Value [a (pr (v (L U) 4) (s (v (P (L U) I) 529))), a (v (L V3) 0), a (v I 3)] 2576
           (.guard (le (ln (v (L (L T4)) 9)) (c 549755813888))
            (.guard (le (ln (one (v (L T4) 2576))) (c 549755813888))
             (.join
              (.jump 0 [a (v (L V3) 0), a (v I 1), a (v I 2), a (v I 3), a (v (L U) 4), a (s (v (P (L U) I) 2577)), a (v (L TR) 6), a (v (L T4) 7), a (app (v (L I) 8) (one (v I 3))), a (app (v (L (L T4)) 9) (one (v (L T4) 2576)))])
              (.jump 0 [a (v (L V3) 0), a (v I 1), a (v I 2), a (v I 3), a (v (L U) 4), a (v I 5), a (v (L TR) 6), a (v (L T4) 7), a (v (L I) 8), a (v (L (L T4)) 9)])))))))
        (.ite (eq (v I 3) (sub (ln (v (L V3) 0)) (c 1)))
         (.ite (eq (ln (v (L I) 8)) (c 0))
          (.call f_spec_l40Rd_pick [a (pr (v (L U) 4) (s (v (P (L U) I) 529))), a (c 9)] 1552
           (.ite (gt (v I 1552) (c 0))
            (.guard (le (ln (v (L I) 8)) (c 549755813888))
             (.guard (le (ln (one (v I 3))) (c 549755813888))
              (.call f_spec_l2Value [a (pr (v (L U) 4) (s (v (P (L U) I) 1553))), a (v (L V3) 0), a (v I 3)] 2576
               (.guard (le (ln (v (L (L T4)) 9)) (c 549755813888))
                (.guard (le (ln (one (v (L T4) 2576))) (c 549755813888))
                 (.join
                  (.jump 0 [a (v (L V3) 0), a (v I 1), a (v I 2), a (v I 3), a (v (L U) 4), a (s (v (P (L U) I) 2577)), a (v (L TR) 6), a (v (L T4) 7), a (app (v (L I) 8) (one (v I 3))), a (app (v (L (L T4)) 9) (one (v (L T4) 2576)))])
                  (.jump 0 [a (v (L V3) 0), a (v I 1), a (v I 2), a (v I 3), a (v (L U) 4), a (v I 5), a (v (L TR) 6), a (v (L T4) 7), a (v (L I) 8), a (v (L (L T4)) 9)])))))))
            (.jump 0 [a (v (L V3) 0), a (v I 1), a (v I 2), a (v I 3), a (v (L U) 4), a (s (v (P (L U) I) 1553)), a (v (L TR) 6), a (v (L T4) 7), a (v (L I) 8), a (v (L (L T4)) 9)])))
          (.jump 0 [a (v (L V3) 0), a (v I 1), a (v I 2), a (v I 3), a (v (L U) 4), a (s (v (P (L U) I) 529)), a (v (L TR) 6), a (v (L T4) 7), a (v (L I) 8), a (v (L (L T4)) 9)]))
         (.jump 0 [a (v (L V3) 0), a (v I 1), a (v I 2), a (v I 3), a (v (L U) 4), a (s (v (P (L U) I) 529)), a (v (L TR) 6), a (v (L T4) 7), a (v (L I) 8), a (v (L (L T4)) 9)]))))
      (.jump 0 [a (v (L V3) 0), a (v I 1), a (v I 2), a (add (v I 3) (c 1)), a (v (L U) 4), a (v I 5), a (v (L TR) 6), a (v (L T4) 7), a (v (L I) 8), a (v (L (L T4)) 9)]))
     (.guard (le (ln (v (L TR) 6)) (c 549755813888))
      (.guard (le (ln (one (pr (v (L T4) 7) (pr (v (L I) 8) (v (L (L T4)) 9))))) (c 549755813888))
       (.jump 1 [a (v (L V3) 0), a (v I 1), a (add (v I 2) (c 1)), a (v (L U) 4), a (v I 5), a (app (v (L TR) 6) (one (pr (v (L T4) 7) (pr (v (L I) 8) (v (L (L T4)) 9)))))]))))))
  (.ret [a (v (L TR) 5), a (pr (v (L U) 3) (v I 4))]))
def tr_spec_l2System : Tr := .call f_spec_l40Rd_pick [a (pr (f (v (P (L U) I) 0)) (s (v (P (L U) I) 0))), a (c 3)] 100384
 (.loop [a (v I 1), a (c 1), a (add (c 1) (v I 100384)), a (f (v (P (L U) I) 0)), a (s (v (P (L U) I) 100385)), a (nl V3)]
  (.ite (gt (v I 2) (c 0))
   (.join
    (.call f_spec_l40Rd_num [a (pr (v (L U) 3) (v I 4)), a (app (one (c 2)) (app (one (c 3)) (app (one (c 2)) (app (one (c 4)) (one (c 5))))))] 266
     (.ite (le (mul (v I 1) (v I 266)) (v I 0))
      (.call f_spec_l40Rd_num [a (pr (v (L U) 3) (s (v (P (L U) I) 267))), a (app (one (c 0)) (app (one (c 0)) (app (one (c 0)) (app (one (c (-1))) (one (c 2))))))] 842
       (.call f_spec_l40Rd_pick [a (pr (v (L U) 3) (s (v (P (L U) I) 843))), a (v I 266)] 1610
        (.guard (le (ln (v (L V3) 5)) (c 549755813888))
         (.guard (le (ln (one (pr (v I 842) (pr (sub (add (v I 842) (v I 266)) (c 1)) (add (v I 842) (v I 1610)))))) (c 549755813888))
          (.join
           (.jump 0 [a (v I 0), a (v I 1), a (v I 2), a (v I 266), a (v (L U) 3), a (s (v (P (L U) I) 1611)), a (app (v (L V3) 5) (one (pr (v I 842) (pr (sub (add (v I 842) (v I 266)) (c 1)) (add (v I 842) (v I 1610))))))])
           (.jump 0 [a (v I 0), a (mul (v I 1) (v I 3)), a (v I 2), a (v (L U) 4), a (v I 5), a (v (L V3) 6)]))))))
      (.jump 0 [a (v I 0), a (v I 1), a (v I 2), a (v (L U) 3), a (s (v (P (L U) I) 267)), a (v (L V3) 5)])))
    (.jump 0 [a (v I 0), a (v I 1), a (sub (v I 2) (c 1)), a (v (L U) 3), a (v I 4), a (v (L V3) 5)]))
   (.join
    (.ite (eq (ln (v (L V3) 5)) (c 0))
     (.guard (le (ln (v (L V3) 5)) (c 549755813888))
      (.guard (le (ln (one (pr (c 0) (pr (c 1) (c 0))))) (c 549755813888))
       (.jump 0 [a (v (L U) 3), a (v I 4), a (app (v (L V3) 5) (one (pr (c 0) (pr (c 1) (c 0)))))])))
     (.jump 0 [a (v (L U) 3), a (v I 4), a (v (L V3) 5)]))
    (.call f_spec_l40Rd_num [a (pr (v (L U) 0) (v I 1)), a (app (one (c 1)) (app (one (c 2)) (app (one (c 3)) (app (one (c 4)) (app (one (c 2)) (app (one (c 3)) (one (c 0))))))))] 327
     (.call f_spec_l2Rules [a (pr (v (L U) 0) (s (v (P (L U) I) 328))), a (v (L V3) 2), a (v I 327)] 391
      (.join
       (.jump 0 [a (v (L U) 0), a (s (v (P (L U) I) 392)), a (v (L V3) 2), a (v (L TR) 391)])
       (.ret [a (v (L V3) 2), a (v (L TR) 3), a (pr (v (L U) 0) (v I 1))])))))))
end Go.Proofs.YtboikipchhgdlaaGreat
namespace Go.Proofs.YtboikipchhgdlaaGreat
open Go Go.Sm Go.Sm.Q
def tr_spec_l2Any : Tr := .call f_spec_l2System [a (pr (f (v (P (L U) I) 0)) (s (v (P (L U) I) 0))), a (v I 1)] 100192
 (.join
  (.call f_spec_l40Rd_pick [a (pr (f (v (P (L U) I) 0)) (s (v (P (L U) I) 100194))), a (c 14)] 100448
   (.ite (eq (v I 100448) (c 0))
    (.call f_spec_l40Rd_pick [a (pr (f (v (P (L U) I) 0)) (s (v (P (L U) I) 100449))), a (c 6)] 100640
     (.ite (eq (v I 100640) (c 0))
      (.guard (lt (c 0) (ln (v (L V3) 100192)))
       (.guard (lt (c 0) (ln (v (L V3) 100192)))
        (.jump 0 [a (f (v (P (L U) I) 0)), a (s (v (P (L U) I) 100641)), a (st (v (L V3) 100192) (c 0) (pr (f (ix (v (L V3) 100192) (c 0))) (pr (f (s (ix (v (L V3) 100192) (c 0)))) (add (f (s (ix (v (L V3) 100192) (c 0)))) (c 1))))), a (v (L TR) 100193)])))
      (.ite (eq (v I 100640) (c 1))
       (.guard (lt (c 0) (ln (v (L V3) 100192)))
        (.call f_spec_l40Rd_num [a (pr (f (v (P (L U) I) 0)) (s (v (P (L U) I) 100641))), a (app (one (c (-1))) (app (one (c 20)) (one (c 19))))] 101600
         (.guard (lt (c 0) (ln (v (L V3) 100192)))
          (.join
           (.jump 0 [a (f (v (P (L U) I) 0)), a (s (v (P (L U) I) 101601)), a (st (v (L V3) 100192) (c 0) (pr (f (ix (v (L V3) 100192) (c 0))) (pr (add (f (ix (v (L V3) 100192) (c 0))) (v I 101600)) (s (s (ix (v (L V3) 100192) (c 0))))))), a (v (L TR) 100193)])
           (.jump 0 [a (v (L U) 0), a (v I 1), a (v (L V3) 2), a (v (L TR) 3)])))))
       (.ite (eq (v I 100640) (c 2))
        (.ite (gt (ln (v (L TR) 100193)) (c 0))
         (.call f_spec_l2Const [a (c 1)] 101664
          (.guard (lt (c 0) (ln (v (L TR) 100193)))
           (.jump 0 [a (f (v (P (L U) I) 0)), a (s (v (P (L U) I) 100641)), a (v (L V3) 100192), a (st (v (L TR) 100193) (c 0) (pr (one (pr (v I 101664) (pr (v I 101665) (pr (v I 101666) (v I 101667))))) (s (ix (v (L TR) 100193) (c 0)))))])))
         (.ite (eq (v I 100640) (c 3))
          (.ite (gt (ln (v (L TR) 100193)) (c 0))
           (.guard (lt (c 0) (ln (v (L TR) 100193)))
            (.guard (le (ln (f (s (ix (v (L TR) 100193) (c 0))))) (c 549755813888))
             (.guard (le (ln (one (ln (v (L V3) 100192)))) (c 549755813888))
              (.guard (lt (c 0) (ln (v (L TR) 100193)))
               (.join
                (.jump 0 [a (f (v (P (L U) I) 0)), a (s (v (P (L U) I) 100641)), a (v (L V3) 100192), a (st (v (L TR) 100193) (c 0) (pr (f (ix (v (L TR) 100193) (c 0))) (pr (app (f (s (ix (v (L TR) 100193) (c 0)))) (one (ln (v (L V3) 100192)))) (s (s (ix (v (L TR) 100193) (c 0)))))))])
                (.jump 0 [a (v (L U) 0), a (v I 1), a (v (L V3) 2), a (v (L TR) 3)]))))))
           (.ite (eq (v I 100640) (c 4))
            (.jump 0 [a (f (v (P (L U) I) 0)), a (s (v (P (L U) I) 100641)), a (nl V3), a (v (L TR) 100193)])
            (.ite (gt (ln (v (L TR) 100193)) (c 0))
             (.guard (lt (c 0) (ln (v (L TR) 100193)))
              (.call f_spec_l2Const [a (c 0)] 102880
               (.guard (le (ln (s (s (ix (v (L TR) 100193) (c 0))))) (c 549755813888))
                (.guard (le (ln (one (one (pr (v I 102880) (pr (v I 102881) (pr (v I 102882) (v I 102883))))))) (c 549755813888))
                 (.guard (lt (c 0) (ln (v (L TR) 100193)))
                  (.join
                   (.jump 0 [a (f (v (P (L U) I) 0)), a (s (v (P (L U) I) 100641)), a (v (L V3) 100192), a (st (v (L TR) 100193) (c 0) (pr (f (ix (v (L TR) 100193) (c 0))) (pr (f (s (ix (v (L TR) 100193) (c 0)))) (app (s (s (ix (v (L TR) 100193) (c 0)))) (one (one (pr (v I 102880) (pr (v I 102881) (pr (v I 102882) (v I 102883))))))))))])
                   (.jump 0 [a (v (L U) 0), a (v I 1), a (v (L V3) 2), a (v (L TR) 3)])))))))
             (.jump 0 [a (f (v (P (L U) I) 0)), a (s (v (P (L U) I) 100641)), a (v (L V3) 100192), a (v (L TR) 100193)]))))
          (.ite (eq (v I 100640) (c 4))
           (.jump 0 [a (f (v (P (L U) I) 0)), a (s (v (P (L U) I) 100641)), a (nl V3), a (v (L TR) 100193)])
           (.ite (gt (ln (v (L TR) 100193)) (c 0))
            (.guard (lt (c 0) (ln (v (L TR) 100193)))
             (.call f_spec_l2Const [a (c 0)] 102880
              (.guard (le (ln (s (s (ix (v (L TR) 100193) (c 0))))) (c 549755813888))
               (.guard (le (ln (one (one (pr (v I 102880) (pr (v I 102881) (pr (v I 102882) (v I 102883))))))) (c 549755813888))
                (.guard (lt (c 0) (ln (v (L TR) 100193)))
                 (.join
                  (.jump 0 [a (f (v (P (L U) I) 0)), a (s (v (P (L U) I) 100641)), a (v (L V3) 100192), a (st (v (L TR) 100193) (c 0) (pr (f (ix (v (L TR) 100193) (c 0))) (pr (f (s (ix (v (L TR) 100193) (c 0)))) (app (s (s (ix (v (L TR) 100193) (c 0)))) (one (one (pr (v I 102880) (pr (v I 102881) (pr (v I 102882) (v I 102883))))))))))])
                  (.jump 0 [a (v (L U) 0), a (v I 1), a (v (L V3) 2), a (v (L TR) 3)])))))))
            (.jump 0 [a (f (v (P (L U) I) 0)), a (s (v (P (L U) I) 100641)), a (v (L V3) 100192), a (v (L TR) 100193)])))))
        (.ite (eq (v I 100640) (c 3))
         (.ite (gt (ln (v (L TR) 100193)) (c 0))
          (.guard (lt (c 0) (ln (v (L TR) 100193)))
           (.guard (le (ln (f (s (ix (v (L TR) 100193) (c 0))))) (c 549755813888))
            (.guard (le (ln (one (ln (v (L V3) 100192)))) (c 549755813888))
             (.guard (lt (c 0) (ln (v (L TR) 100193)))
              (.join
               (.jump 0 [a (f (v (P (L U) I) 0)), a (s (v (P (L U) I) 100641)), a (v (L V3) 100192), a (st (v (L TR) 100193) (c 0) (pr (f (ix (v (L TR) 100193) (c 0))) (pr (app (f (s (ix (v (L TR) 100193) (c 0)))) (one (ln (v (L V3) 100192)))) (s (s (ix (v (L TR) 100193) (c 0)))))))])
               (.jump 0 [a (v (L U) 0), a (v I 1), a (v (L V3) 2), a (v (L TR) 3)]))))))
          (.ite (eq (v I 100640) (c 4))
           (.jump 0 [a (f (v (P (L U) I) 0)), a (s (v (P (L U) I) 100641)), a (nl V3), a (v (L TR) 100193)])
           (.ite (gt (ln (v (L TR) 100193)) (c 0))
            (.guard (lt (c 0) (ln (v (L TR) 100193)))
             (.call f_spec_l2Const [a (c 0)] 102880
              (.guard (le (ln (s (s (ix (v (L TR) 100193) (c 0))))) (c 549755813888))
               (.guard (le (ln (one (one (pr (v I 102880) (pr (v I 102881) (pr (v I 102882) (v I 102883))))))) (c 549755813888))
                (.guard (lt (c 0) (ln (v (L TR) 100193)))
                 (.join
                  (.jump 0 [a (f (v (P (L U) I) 0)), a (s (v (P (L U) I) 100641)), a (v (L V3) 100192), a (st (v (L TR) 100193) (c 0) (pr (f (ix (v (L TR) 100193) (c 0))) (pr (f (s (ix (v (L TR) 100193) (c 0)))) (app (s (s (ix (v (L TR) 100193) (c 0)))) (one (one (pr (v I 102880) (pr (v I 102881) (pr (v I 102882) (v I 102883))))))))))])
                  (.jump 0 [a (v (L U) 0), a (v I 1), a (v (L V3) 2), a (v (L TR) 3)])))))))
            (.jump 0 [a (f (v (P (L U) I) 0)), a (s (v (P (L U) I) 100641)), a (v (L V3) 100192), a (v (L TR) 100193)]))))
         (.ite (eq (v I 100640) (c 4))
          (.jump 0 [a (f (v (P (L U) I) 0)), a (s (v (P (L U) I) 100641)), a (nl V3), a (v (L TR) 100193)])
          (.ite (gt (ln (v (L TR) 100193)) (c 0))
           (.guard (lt (c 0) (ln (v (L TR) 100193)))
            (.call f_spec_l2Const [a (c 0)] 102880
             (.guard (le (ln (s (s (ix (v (L TR) 100193) (c 0))))) (c 549755813888))
              (.guard (le (ln (one (one (pr (v I 102880) (pr (v I 102881) (pr (v I 102882) (v I 102883))))))) (c 549755813888))
               (.guard (lt (c 0) (ln (v (L TR) 100193)))
                (.join
                 (.jump 0 [a (f (v (P (L U) I) 0)), a (s (v (P (L U) I) 100641)), a (v (L V3) 100192), a (st (v (L TR) 100193) (c 0) (pr (f (ix (v (L TR) 100193) (c 0))) (pr (f (s (ix (v (L TR) 100193) (c 0)))) (app (s (s (ix (v (L TR) 100193) (c 0)))) (one (one (pr (v I 102880) (pr (v I 102881) (pr (v I 102882) (v I 102883))))))))))])
                 (.jump 0 [a (v (L U) 0), a (v I 1), a (v (L V3) 2), a (v (L TR) 3)])))))))
           (.jump 0 [a (f (v (P (L U) I) 0)), a (s (v (P (L U) I) 100641)), a (v (L V3) 100192), a (v (L TR) 100193)]))))))))
    (.jump 0 [a (f (v (P (L U) I) 0)), a (s (v (P (L U) I) 100449)), a (v (L V3) 100192), a (v (L TR) 100193)])))
  (.ret [a (v (L V3) 2), a (v (L TR) 3), a (pr (v (L U) 0) (v I 1))]))
def tr_spec_l10System : Tr := .call f_spec_l2Any [a (pr (f (v (P (L U) I) 0)) (s (v (P (L U) I) 0))), a (c 12)] 100128
 (.join
  (.call f_spec_l40Rd_pick [a (pr (f (v (P (L U) I) 0)) (s (v (P (L U) I) 100130))), a (c 20)] 100384
   (.ite (eq (v I 100384) (c 0))
    (.call f_spec_l2System [a (pr (f (v (P (L U) I) 0)) (s (v (P (L U) I) 100385))), a (c 100)] 100576
     (.jump 0 [a (f (v (P (L U) I) 0)), a (s (v (P (L U) I) 100578)), a (v (L V3) 100576), a (v (L TR) 100577)]))
    (.jump 0 [a (f (v (P (L U) I) 0)), a (s (v (P (L U) I) 100385)), a (v (L V3) 100128), a (v (L TR) 100129)])))
  (.ret [a (v (L V3) 2), a (v (L TR) 3), a (pr (v (L U) 0) (v I 1))]))
def tr_spec_l4Some : Tr := .call f_spec_SizeOf [a (v (L V3) 1), a (v (L TR) 2)] 100320
 (.call f_spec_l40Rd_num [a (pr (f (v (P (L U) I) 0)) (s (v (P (L U) I) 0))), a (app (one (c 2)) (app (one (c 3)) (app (one (c 1)) (app (one (c 5)) (one (c 9))))))] 100576
  (.loop [a (v I 100320), a (v I 100576), a (c 0), a (f (v (P (L U) I) 0)), a (s (v (P (L U) I) 100577)), a (nl I)]
   (.ite (lt (v I 2) (v I 0))
    (.join
     (.call f_spec_l40Rd_pick [a (pr (v (L U) 3) (v I 4)), a (v I 1)] 328
      (.ite (eq (v I 328) (c 0))
       (.guard (le (ln (v (L I) 5)) (c 549755813888))
        (.guard (le (ln (one (v I 2))) (c 549755813888))
         (.jump 0 [a (v I 0), a (v I 1), a (v I 2), a (v (L U) 3), a (s (v (P (L U) I) 329)), a (app (v (L I) 5) (one (v I 2)))])))
       (.jump 0 [a (v I 0), a (v I 1), a (v I 2), a (v (L U) 3), a (s (v (P (L U) I) 329)), a (v (L I) 5)])))
     (.jump 0 [a (v I 0), a (v I 1), a (add (v I 2) (c 1)), a (v (L U) 3), a (v I 4), a (v (L I) 5)]))
    (.join
     (.call f_spec_l40Rd_pick [a (pr (v (L U) 3) (v I 4)), a (c 15)] 264
      (.ite (eq (v I 264) (c 0))
       (.call f_spec_l40Rd_num [a (pr (v (L U) 3) (s (v (P (L U) I) 265))), a (app (one (v I 0)) (app (one (c 0)) (one (c (-1)))))] 648
        (.guard (le (ln (v (L I) 5)) (c 549755813888))
         (.guard (le (ln (one (v I 648))) (c 549755813888))
          (.jump 0 [a (v (L U) 3), a (s (v (P (L U) I) 649)), a (app (v (L I) 5) (one (v I 648)))]))))
       (.jump 0 [a (v (L U) 3), a (s (v (P (L U) I) 265)), a (v (L I) 5)])))
     (.ret [a (v (L I) 2), a (pr (v (L U) 0) (v I 1))])))))
def tr_spec_DrawSetDiagram : Tr := .call f_spec_l40Open [a (v (L U) 0)] 100192
 (.call f_spec_l10System [a (pr (f (v (P (L U) I) 100192)) (s (v (P (L U) I) 100192)))] 100384
  (.call f_spec_l4Some [a (pr (f (v (P (L U) I) 100192)) (s (v (P (L U) I) 100386))), a (v (L V3) 100384), a (v (L TR) 100385)] 100768
   (.join
    (.jump 0 [a (v (L V3) 100384), a (v (L TR) 100385), a (v (L I) 100768)])
    (.ret [a (v (L V3) 0), a (v (L TR) 1), a (v (L I) 2)]))))
def tr_spec_DrawImageBy : Tr := .call f_spec_DrawSetDiagram [a (v (L U) 0)] 100192
 (.ret [a (v (L V3) 100192), a (v (L TR) 100193), a (v (L I) 100194)])
def tr_impl_setOk : Tr := .loop [a (v (L I) 0), a (v I 1), a (v (L I) 0), a (ln (v (L I) 0)), a (c 0)]
 (.ite (lt (v I 4) (v I 3))
  (.join
   (.guard (le (c 0) (v I 4))
    (.guard (lt (v I 4) (ln (v (L I) 2)))
     (.call f_impl_in [a (ix (v (L I) 2) (v I 4)), a (c 0), a (sub (v I 1) (c 1))] 581
      (.ite (nt (v B 581))
       (.ret [a (k false)])
       (.ite (gt (v I 4) (c 0))
        (.guard (le (c 0) (sub (v I 4) (c 1)))
         (.guard (lt (sub (v I 4) (c 1)) (ln (v (L I) 0)))
          (.ite (ge (ix (v (L I) 0) (sub (v I 4) (c 1))) (ix (v (L I) 2) (v I 4)))
           (.ret [a (k false)])
           (.jump 0 [a (v (L I) 0), a (v I 1), a (v (L I) 2), a (v I 3), a (v I 4)]))))
        (.jump 0 [a (v (L I) 0), a (v I 1), a (v (L I) 2), a (v I 3), a (v I 4)]))))))
   (.jump 0 [a (v (L I) 0), a (v I 1), a (v (L I) 2), a (v I 3), a (add (v I 4) (c 1))]))
  (.ret [a (k true)]))
def tr_impl_SetValid : Tr := .call f_impl_SystemValid [a (v (L V3) 0), a (v (L TR) 1)] 100192
 (.ite (v B 100192)
  (.call f_impl_size [a (v (L V3) 0)] 100512
   (.call f_impl_setOk [a (v (L I) 2), a (v I 100512)] 100576
    (.ret [a (v B 100576)])))
  (.ret [a (k false)]))
def tr_impl_listOf : Tr := .loop [a (v (L B) 0), a (ln (v (L B) 0)), a (c 0), a (nl I)]
 (.ite (lt (v I 2) (v I 1))
  (.join
   (.guard (le (c 0) (v I 2))
    (.guard (lt (v I 2) (ln (v (L B) 0)))
     (.ite (ix (v (L B) 0) (v I 2))
      (.guard (le (ln (v (L I) 3)) (c 549755813888))
       (.guard (le (ln (one (v I 2))) (c 549755813888))
        (.jump 0 [a (v (L B) 0), a (v I 1), a (v I 2), a (app (v (L I) 3) (one (v I 2)))])))
      (.jump 0 [a (v (L B) 0), a (v I 1), a (v I 2), a (v (L I) 3)]))))
   (.jump 0 [a (v (L B) 0), a (v I 1), a (add (v I 2) (c 1)), a (v (L I) 3)]))
  (.call f_impl_clone_int [a (v (L I) 3)] 133
   (.ret [a (v (L I) 133)])))
def tr_impl_over : Tr := .guard (le (c 0) (ln (v (L (L I)) 0)))
 (.guard (le (ln (v (L (L I)) 0)) (c 549755813888))
  (.loop [a (v (L (L I)) 0), a (v (L I) 1), a (ln (v (L I) 1)), a (c 0), a (rep (ln (v (L (L I)) 0)) (z B))]
   (.ite (lt (v I 3) (v I 2))
    (.guard (le (c 0) (v I 3))
     (.guard (lt (v I 3) (ln (v (L I) 1)))
      (.guard (le (c 0) (ix (v (L I) 1) (v I 3)))
       (.guard (lt (ix (v (L I) 1) (v I 3)) (ln (v (L (L I)) 0)))
        (.loop [a (v (L (L I)) 0), a (v (L I) 1), a (v I 2), a (v I 3), a (ix (v (L (L I)) 0) (ix (v (L I) 1) (v I 3))), a (ln (ix (v (L (L I)) 0) (ix (v (L I) 1) (v I 3)))), a (c 0), a (v (L B) 4)]
         (.ite (lt (v I 6) (v I 5))
          (.guard (le (c 0) (v I 6))
           (.guard (lt (v I 6) (ln (v (L I) 4)))
            (.guard (le (c 0) (ix (v (L I) 4) (v I 6)))
             (.guard (lt (ix (v (L I) 4) (v I 6)) (ln (v (L B) 7)))
              (.jump 0 [a (v (L (L I)) 0), a (v (L I) 1), a (v I 2), a (v I 3), a (v (L I) 4), a (v I 5), a (add (v I 6) (c 1)), a (st (v (L B) 7) (ix (v (L I) 4) (v I 6)) (k true))])))))
          (.jump 1 [a (v (L (L I)) 0), a (v (L I) 1), a (v I 2), a (add (v I 3) (c 1)), a (v (L B) 7)])))))))
    (.call f_impl_listOf [a (v (L B) 4)] 134
     (.ret [a (v (L I) 134)])))))
def tr_impl_NextNumbers : Tr := .call f_impl_SetValid [a (v (L V3) 0), a (v (L TR) 1), a (v (L I) 2)] 100256
 (.ite (nt (v B 100256))
  (.ret [a (nl I)])
  (.call f_impl_nexts [a (v (L V3) 0), a (v (L TR) 1)] 100448
   (.call f_impl_over [a (v (L (L I)) 100448), a (v (L I) 2)] 100576
    (.ret [a (v (L I) 100576)]))))
def tr_impl_ImageBy : Tr := .call f_impl_halfNarrow [a (v (L V3) 0), a (v (L TR) 1)] 100192
 (.ite (nt (v B 100192))
  (.ret [a (nl I)])
  (.call f_impl_NextNumbers [a (v (L V3) 0), a (v (L TR) 1), a (v (L I) 2)] 100448
   (.ret [a (v (L I) 100448)])))
def tr_impl_pasts : Tr := .guard (le (c 0) (ln (v (L (L I)) 0)))
 (.guard (le (ln (v (L (L I)) 0)) (c 549755813888))
  (.loop [a (v (L (L I)) 0), a (ln (v (L (L I)) 0)), a (c 0), a (rep (ln (v (L (L I)) 0)) (z (L I)))]
   (.ite (lt (v I 2) (v I 1))
    (.guard (le (c 0) (v I 2))
     (.guard (lt (v I 2) (ln (v (L (L I)) 0)))
      (.loop [a (v I 2), a (v (L (L I)) 0), a (v I 1), a (v I 2), a (ix (v (L (L I)) 0) (v I 2)), a (ln (ix (v (L (L I)) 0) (v I 2))), a (c 0), a (v (L (L I)) 3)]
       (.ite (lt (v I 6) (v I 5))
        (.guard (le (c 0) (v I 6))
         (.guard (lt (v I 6) (ln (v (L I) 4)))
          (.guard (le (c 0) (ix (v (L I) 4) (v I 6)))
           (.guard (lt (ix (v (L I) 4) (v I 6)) (ln (v (L (L I)) 7)))
            (.guard (le (ln (ix (v (L (L I)) 7) (ix (v (L I) 4) (v I 6)))) (c 549755813888))
             (.guard (le (ln (one (v I 0))) (c 549755813888))
              (.guard (le (c 0) (ix (v (L I) 4) (v I 6)))
               (.guard (lt (ix (v (L I) 4) (v I 6)) (ln (v (L (L I)) 7)))
                (.jump 0 [a (v I 0), a (v (L (L I)) 1), a (v I 2), a (v I 3), a (v (L I) 4), a (v I 5), a (add (v I 6) (c 1)), a (st (v (L (L I)) 7) (ix (v (L I) 4) (v I 6)) (app (ix (v (L (L I)) 7) (ix (v (L I) 4) (v I 6))) (one (v I 0))))])))))))))
        (.jump 1 [a (v (L (L I)) 1), a (v I 2), a (add (v I 3) (c 1)), a (v (L (L I)) 7)])))))
    (.ret [a (v (L (L I)) 3)]))))
def tr_impl_PastNumbers : Tr := .call f_impl_SetValid [a (v (L V3) 0), a (v (L TR) 1), a (v (L I) 2)] 100256
 (.ite (nt (v B 100256))
  (.ret [a (nl I)])
  (.call f_impl_nexts [a (v (L V3) 0), a (v (L TR) 1)] 100448
   (.call f_impl_pasts [a (v (L (L I)) 100448)] 100512
    (.call f_impl_over [a (v (L (L I)) 100512), a (v (L I) 2)] 100640
     (.ret [a (v (L I) 100640)])))))
def tr_impl_PastBy : Tr := .call f_impl_halfNarrow [a (v (L V3) 0), a (v (L TR) 1)] 100192
 (.ite (nt (v B 100192))
  (.ret [a (nl I)])
  (.call f_impl_PastNumbers [a (v (L V3) 0), a (v (L TR) 1), a (v (L I) 2)] 100448
   (.ret [a (v (L I) 100448)])))
def tr_spec_SetValid : Tr := .call f_spec_SizeOf [a (v (L V3) 0), a (v (L TR) 1)] 100192
 (.loop [a (v (L I) 2), a (v I 100192), a (c 0)]
  (.ite (lt (v I 2) (ln (v (L I) 0)))
   (.join
    (.guard (le (c 0) (v I 2))
     (.guard (lt (v I 2) (ln (v (L I) 0)))
      (.call f_spec_l1In [a (ix (v (L I) 0) (v I 2)), a (c 0), a (sub (v I 1) (c 1))] 643
       (.ite (nt (v B 643))
        (.ret [a (k false)])
        (.ite (gt (v I 2) (c 0))
         (.guard (le (c 0) (v I 2))
          (.guard (lt (v I 2) (ln (v (L I) 0)))
           (.guard (le (c 0) (sub (v I 2) (c 1)))
            (.guard (lt (sub (v I 2) (c 1)) (ln (v (L I) 0)))
             (.ite (le (ix (v (L I) 0) (v I 2)) (ix (v (L I) 0) (sub (v I 2) (c 1))))
              (.ret [a (k false)])
              (.jump 0 [a (v (L I) 0), a (v I 1), a (v I 2)]))))))
         (.jump 0 [a (v (L I) 0), a (v I 1), a (v I 2)]))))))
    (.jump 0 [a (v (L I) 0), a (v I 1), a (add (v I 2) (c 1))]))
   (.ret [a (gt (v I 1) (c 0))])))
def tr_spec_l4Marks : Tr := .guard (le (c 0) (v I 1))
 (.guard (le (v I 1) (c 549755813888))
  (.loop [a (v (L I) 0), a (c 0), a (rep (v I 1) (z B))]
   (.ite (lt (v I 1) (ln (v (L I) 0)))
    (.guard (le (c 0) (v I 1))
     (.guard (lt (v I 1) (ln (v (L I) 0)))
      (.guard (le (c 0) (ix (v (L I) 0) (v I 1)))
       (.guard (lt (ix (v (L I) 0) (v I 1)) (ln (v (L B) 2)))
        (.jump 0 [a (v (L I) 0), a (add (v I 1) (c 1)), a (st (v (L B) 2) (ix (v (L I) 0) (v I 1)) (k true))])))))
    (.ret [a (v (L B) 2)]))))
def tr_spec_l4Behind : Tr := .guard (le (c 0) (ln (v (L (L I)) 0)))
 (.guard (le (ln (v (L (L I)) 0)) (c 549755813888))
  (.loop [a (v (L (L I)) 0), a (v (L B) 1), a (c 0), a (rep (ln (v (L (L I)) 0)) (z B))]
   (.ite (lt (v I 2) (ln (v (L (L I)) 0)))
    (.loop [a (v (L (L I)) 0), a (v (L B) 1), a (v I 2), a (c 0), a (v (L B) 3)]
     (.guard (le (c 0) (v I 2))
      (.guard (lt (v I 2) (ln (v (L (L I)) 0)))
       (.ite (lt (v I 3) (ln (ix (v (L (L I)) 0) (v I 2))))
        (.join
         (.guard (le (c 0) (v I 2))
          (.guard (lt (v I 2) (ln (v (L B) 1)))
           (.ite (ix (v (L B) 1) (v I 2))
            (.guard (le (c 0) (v I 2))
             (.guard (lt (v I 2) (ln (v (L (L I)) 0)))
              (.guard (le (c 0) (v I 3))
               (.guard (lt (v I 3) (ln (ix (v (L (L I)) 0) (v I 2))))
                (.guard (le (c 0) (ix (ix (v (L (L I)) 0) (v I 2)) (v I 3)))
                 (.guard (lt (ix (ix (v (L (L I)) 0) (v I 2)) (v I 3)) (ln (v (L B) 4)))
                  (.jump 0 [a (v (L (L I)) 0), a (v (L B) 1), a (v I 2), a (v I 3), a (st (v (L B) 4) (ix (ix (v (L (L I)) 0) (v I 2)) (v I 3)) (k true))])))))))
            (.jump 0 [a (v (L (L I)) 0), a (v (L B) 1), a (v I 2), a (v I 3), a (v (L B) 4)]))))
         (.jump 0 [a (v (L (L I)) 0), a (v (L B) 1), a (v I 2), a (add (v I 3) (c 1)), a (v (L B) 4)]))
        (.jump 1 [a (v (L (L I)) 0), a (v (L B) 1), a (add (v I 2) (c 1)), a (v (L B) 4)])))))
    (.ret [a (v (L B) 3)]))))
def tr_spec_l4List : Tr := .loop [a (v (L B) 0), a (c 0), a (nl I)]
 (.ite (lt (v I 1) (ln (v (L B) 0)))
  (.join
   (.guard (le (c 0) (v I 1))
    (.guard (lt (v I 1) (ln (v (L B) 0)))
     (.ite (ix (v (L B) 0) (v I 1))
      (.guard (le (ln (v (L I) 2)) (c 549755813888))
       (.guard (le (ln (one (v I 1))) (c 549755813888))
        (.jump 0 [a (v (L B) 0), a (v I 1), a (app (v (L I) 2) (one (v I 1)))])))
      (.jump 0 [a (v (L B) 0), a (v I 1), a (v (L I) 2)]))))
   (.jump 0 [a (v (L B) 0), a (add (v I 1) (c 1)), a (v (L I) 2)]))
  (.ret [a (v (L I) 2)]))
def tr_spec_NextNumbers : Tr := .call f_spec_SetValid [a (v (L V3) 0), a (v (L TR) 1), a (v (L I) 2)] 100256
 (.ite (nt (v B 100256))
  (.ret [a (nl I)])
  (.call f_spec_l4Steps [a (v (L V3) 0), a (v (L TR) 1)] 100576
   (.call f_spec_SizeOf [a (v (L V3) 0), a (v (L TR) 1)] 100640
    (.call f_spec_l4Marks [a (v (L I) 2), a (v I 100640)] 100704
     (.call f_spec_l4Behind [a (v (L (L I)) 100576), a (v (L B) 100704)] 100768
      (.call f_spec_l4List [a (v (L B) 100768)] 100832
       (.ret [a (v (L I) 100832)])))))))
def tr_spec_ImageBy : Tr := .call f_spec_l10Wide [a (v (L V3) 0), a (v (L TR) 1)] 100192
 (.ite (lt (v I 100192) (c 0))
  (.ret [a (nl I)])
  (.call f_spec_SetValid [a (v (L V3) 0), a (v (L TR) 1), a (v (L I) 2)] 100512
   (.ite (nt (v B 100512))
    (.ret [a (nl I)])
    (.call f_spec_NextNumbers [a (v (L V3) 0), a (v (L TR) 1), a (v (L I) 2)] 100832
     (.ret [a (v (L I) 100832)])))))
def tr_laws_wcInts : Tr := .ite (ne (ln (v (L I) 0)) (ln (v (L I) 1)))
 (.ret [a (k false)])
 (.loop [a (v (L I) 1), a (v (L I) 0), a (ln (v (L I) 0)), a (c 0)]
  (.ite (lt (v I 3) (v I 2))
   (.guard (le (c 0) (v I 3))
    (.guard (lt (v I 3) (ln (v (L I) 1)))
     (.guard (le (c 0) (v I 3))
      (.guard (lt (v I 3) (ln (v (L I) 0)))
       (.ite (ne (ix (v (L I) 0) (v I 3)) (ix (v (L I) 1) (v I 3)))
        (.ret [a (k false)])
        (.jump 0 [a (v (L I) 0), a (v (L I) 1), a (v I 2), a (add (v I 3) (c 1))]))))))
   (.ret [a (k true)])))
def tr_spec_l4Ahead : Tr := .guard (le (c 0) (ln (v (L (L I)) 0)))
 (.guard (le (ln (v (L (L I)) 0)) (c 549755813888))
  (.loop [a (v (L (L I)) 0), a (v (L B) 1), a (c 0), a (rep (ln (v (L (L I)) 0)) (z B))]
   (.ite (lt (v I 2) (ln (v (L (L I)) 0)))
    (.loop [a (v (L (L I)) 0), a (v (L B) 1), a (v I 2), a (c 0), a (v (L B) 3)]
     (.guard (le (c 0) (v I 2))
      (.guard (lt (v I 2) (ln (v (L (L I)) 0)))
       (.ite (lt (v I 3) (ln (ix (v (L (L I)) 0) (v I 2))))
        (.join
         (.guard (le (c 0) (v I 2))
          (.guard (lt (v I 2) (ln (v (L (L I)) 0)))
           (.guard (le (c 0) (v I 3))
            (.guard (lt (v I 3) (ln (ix (v (L (L I)) 0) (v I 2))))
             (.guard (le (c 0) (ix (ix (v (L (L I)) 0) (v I 2)) (v I 3)))
              (.guard (lt (ix (ix (v (L (L I)) 0) (v I 2)) (v I 3)) (ln (v (L B) 1)))
               (.ite (ix (v (L B) 1) (ix (ix (v (L (L I)) 0) (v I 2)) (v I 3)))
                (.guard (le (c 0) (v I 2))
                 (.guard (lt (v I 2) (ln (v (L B) 4)))
                  (.jump 0 [a (v (L (L I)) 0), a (v (L B) 1), a (v I 2), a (v I 3), a (st (v (L B) 4) (v I 2) (k true))])))
                (.jump 0 [a (v (L (L I)) 0), a (v (L B) 1), a (v I 2), a (v I 3), a (v (L B) 4)]))))))))
         (.jump 0 [a (v (L (L I)) 0), a (v (L B) 1), a (v I 2), a (add (v I 3) (c 1)), a (v (L B) 4)]))
        (.jump 1 [a (v (L (L I)) 0), a (v (L B) 1), a (add (v I 2) (c 1)), a (v (L B) 4)])))))
    (.ret [a (v (L B) 3)]))))
def tr_spec_PastNumbers : Tr := .call f_spec_SetValid [a (v (L V3) 0), a (v (L TR) 1), a (v (L I) 2)] 100256
 (.ite (nt (v B 100256))
  (.ret [a (nl I)])
  (.call f_spec_l4Steps [a (v (L V3) 0), a (v (L TR) 1)] 100576
   (.call f_spec_SizeOf [a (v (L V3) 0), a (v (L TR) 1)] 100640
    (.call f_spec_l4Marks [a (v (L I) 2), a (v I 100640)] 100704
     (.call f_spec_l4Ahead [a (v (L (L I)) 100576), a (v (L B) 100704)] 100768
      (.call f_spec_l4List [a (v (L B) 100768)] 100832
       (.ret [a (v (L I) 100832)])))))))
def tr_spec_PastBy : Tr := .call f_spec_l10Wide [a (v (L V3) 0), a (v (L TR) 1)] 100192
 (.ite (lt (v I 100192) (c 0))
  (.ret [a (nl I)])
  (.call f_spec_SetValid [a (v (L V3) 0), a (v (L TR) 1), a (v (L I) 2)] 100512
   (.ite (nt (v B 100512))
    (.ret [a (nl I)])
    (.call f_spec_PastNumbers [a (v (L V3) 0), a (v (L TR) 1), a (v (L I) 2)] 100832
     (.ret [a (v (L I) 100832)])))))
def tr_laws_FnImageBy : Tr := .ite (gt (ln (v (L U) 0)) (c 1048576))
 (.ret [a (k true)])
 (.call f_spec_DrawImageBy [a (v (L U) 0)] 100320
  (.call f_impl_ImageBy [a (v (L V3) 100320), a (v (L TR) 100321), a (v (L I) 100322)] 101024
   (.call f_impl_PastBy [a (v (L V3) 100320), a (v (L TR) 100321), a (v (L I) 100322)] 101088
    (.call f_spec_ImageBy [a (v (L V3) 100320), a (v (L TR) 100321), a (v (L I) 100322)] 101472
     (.call f_laws_wcInts [a (v (L I) 101024), a (v (L I) 101472)] 101536
      (.ite (nt (v B 101536))
       (.ret [a (k false)])
       (.call f_spec_PastBy [a (v (L V3) 100320), a (v (L TR) 100321), a (v (L I) 100322)] 101920
        (.call f_laws_wcInts [a (v (L I) 101088), a (v (L I) 101920)] 101984
         (.ite (nt (v B 101984))
          (.ret [a (k false)])
          (.call f_impl_StepsCount [a (v (L V3) 100320), a (v (L TR) 100321)] 102240
           (.ite (lt (v I 102240) (c 0))
            (.call f_spec_StepsCount [a (v (L V3) 100320), a (v (L TR) 100321)] 102432
             (.ite (lt (v I 102432) (c 0))
              (.ite (eq (ln (v (L I) 101024)) (c 0))
               (.ret [a (eq (ln (v (L I) 101088)) (c 0))])
               (.ret [a (k false)]))
              (.ret [a (k false)])))
            (.call f_impl_NextNumbers [a (v (L V3) 100320), a (v (L TR) 100321), a (v (L I) 100322)] 102560
             (.call f_laws_wcInts [a (v (L I) 101024), a (v (L I) 102560)] 102624
              (.ite (v B 102624)
               (.call f_impl_PastNumbers [a (v (L V3) 100320), a (v (L TR) 100321), a (v (L I) 100322)] 102944
                (.call f_laws_wcInts [a (v (L I) 101088), a (v (L I) 102944)] 103008
                 (.ite (v B 103008)
                  (.call f_impl_StepsCount [a (v (L V3) 100320), a (v (L TR) 100321)] 103328
                   (.call f_spec_StepsCount [a (v (L V3) 100320), a (v (L TR) 100321)] 103392
                    (.ret [a (eq (v I 103328) (v I 103392))])))
                  (.ret [a (k false)]))))
               (.ret [a (k false)])))))))))))))))
end Go.Proofs.YtboikipchhgdlaaGreat
namespace Go.Proofs.YtboikipchhgdlaaGreat
open Go Go.Sm Go.Sm.Q
set_option maxRecDepth 100000
def trL : List (Nat × Tr) := [
(f_spec_l1In, tr_spec_l1In),
(f_spec_l2Var, tr_spec_l2Var),
(f_spec_l1One, tr_spec_l1One),
(f_spec_l1Kind, tr_spec_l1Kind),
(f_spec_KindsOf, tr_spec_KindsOf),
(f_spec_l2Is, tr_spec_l2Is),
(f_spec_l2Rule, tr_spec_l2Rule),
(f_spec_SystemValid, tr_spec_SystemValid),
(f_spec_l6Many, tr_spec_l6Many),
(f_spec_l6Widths, tr_spec_l6Widths),
(f_spec_l6Sum, tr_spec_l6Sum),
(f_spec_l10Wide, tr_spec_l10Wide),
(f_spec_SizeOf, tr_spec_SizeOf),
(f_spec_FirstState, tr_spec_FirstState),
(f_spec_l3Copy, tr_spec_l3Copy),
(f_spec_l4State, tr_spec_l4State),
(f_spec_l1Held, tr_spec_l1Held),
(f_spec_l1Truth, tr_spec_l1Truth),
(f_spec_l1Do, tr_spec_l1Do),
(f_spec_l1Values, tr_spec_l1Values),
(f_spec_l2Last, tr_spec_l2Last),
(f_spec_l2In, tr_spec_l2In),
(f_spec_l2Use, tr_spec_l2Use),
(f_spec_l2Same, tr_spec_l2Same),
(f_spec_l2Less, tr_spec_l2Less),
(f_spec_l2Put, tr_spec_l2Put),
(f_spec_l2Next, tr_spec_l2Next),
(f_spec_l4Number, tr_spec_l4Number),
(f_spec_l4Steps, tr_spec_l4Steps),
(f_spec_l6Value, tr_spec_l6Value),
(f_spec_l6State, tr_spec_l6State),
(f_spec_l10Both, tr_spec_l10Both),
(f_spec_l10Steps, tr_spec_l10Steps),
(f_spec_l6Number, tr_spec_l6Number),
(f_spec_l8Add, tr_spec_l8Add),
(f_spec_l8Rows, tr_spec_l8Rows),
(f_spec_l10Of, tr_spec_l10Of),
(f_spec_StepDiagram, tr_spec_StepDiagram),
(f_spec_l8Var, tr_spec_l8Var),
(f_spec_l8Fork, tr_spec_l8Fork),
(f_spec_DiagramValid, tr_spec_DiagramValid),
(f_spec_l8Place, tr_spec_l8Place),
(f_spec_l8Count, tr_spec_l8Count),
(f_spec_DiagramCount, tr_spec_DiagramCount),
(f_spec_StepsCount, tr_spec_StepsCount),
(f_impl_in, tr_impl_in),
(f_impl_varOk, tr_impl_varOk),
(f_impl_size, tr_impl_size),
(f_impl_parts, tr_impl_parts),
(f_impl_kindsOf, tr_impl_kindsOf),
(f_impl_kindOf, tr_impl_kindOf),
(f_impl_ruleOk, tr_impl_ruleOk),
(f_impl_SystemValid, tr_impl_SystemValid),
(f_impl_bitsFor, tr_impl_bitsFor),
(f_impl_clone_int, tr_impl_clone_int),
(f_impl_bitsOf, tr_impl_bitsOf),
(f_impl_bitCount, tr_impl_bitCount),
(f_impl_halfNarrow, tr_impl_halfNarrow),
(f_impl_stateAt, tr_impl_stateAt),
(f_impl_held, tr_impl_held),
(f_impl_bit, tr_impl_bit),
(f_impl_do, tr_impl_do),
(f_impl_eval, tr_impl_eval),
(f_impl_inRange, tr_impl_inRange),
(f_impl_use, tr_impl_use),
(f_cmp_isNaN_int, tr_cmp_isNaN_int),
(f_cmp_Compare_int, tr_cmp_Compare_int),
(f_slices_Compare_Sint_int, tr_slices_Compare_Sint_int),
(f_slices_Reverse_SSint_Sint, tr_slices_Reverse_SSint_Sint),
(f_impl_clone_Sint, tr_impl_clone_Sint),
(f_impl_nextStates, tr_impl_nextStates),
(f_impl_number, tr_impl_number),
(f_impl_nexts, tr_impl_nexts),
(f_impl_StepsCount, tr_impl_StepsCount),
(f_spec_l40Open, tr_spec_l40Open),
(f_spec_l40Rd_pick, tr_spec_l40Rd_pick),
(f_spec_l40Rd_num, tr_spec_l40Rd_num),
(f_spec_l2VarOf, tr_spec_l2VarOf),
(f_spec_l2Const, tr_spec_l2Const),
(f_spec_l2Cond, tr_spec_l2Cond),
(f_spec_TermsValid, tr_spec_TermsValid),
(f_spec_l1Moved, tr_spec_l1Moved),
(f_spec_Joined, tr_spec_Joined),
(f_spec_l2When, tr_spec_l2When),
(f_spec_l1Number, tr_spec_l1Number),
(f_spec_l1Pick, tr_spec_l1Pick),
(f_spec_l1Terms, tr_spec_l1Terms),
(f_spec_l2Value, tr_spec_l2Value),
(f_spec_l2Rules, tr_spec_l2Rules),
(f_spec_l2System, tr_spec_l2System),
(f_spec_l2Any, tr_spec_l2Any),
(f_spec_l10System, tr_spec_l10System),
(f_spec_l4Some, tr_spec_l4Some),
(f_spec_DrawSetDiagram, tr_spec_DrawSetDiagram),
(f_spec_DrawImageBy, tr_spec_DrawImageBy),
(f_impl_setOk, tr_impl_setOk),
(f_impl_SetValid, tr_impl_SetValid),
(f_impl_listOf, tr_impl_listOf),
(f_impl_over, tr_impl_over),
(f_impl_NextNumbers, tr_impl_NextNumbers),
(f_impl_ImageBy, tr_impl_ImageBy),
(f_impl_pasts, tr_impl_pasts),
(f_impl_PastNumbers, tr_impl_PastNumbers),
(f_impl_PastBy, tr_impl_PastBy),
(f_spec_SetValid, tr_spec_SetValid),
(f_spec_l4Marks, tr_spec_l4Marks),
(f_spec_l4Behind, tr_spec_l4Behind),
(f_spec_l4List, tr_spec_l4List),
(f_spec_NextNumbers, tr_spec_NextNumbers),
(f_spec_ImageBy, tr_spec_ImageBy),
(f_laws_wcInts, tr_laws_wcInts),
(f_spec_l4Ahead, tr_spec_l4Ahead),
(f_spec_PastNumbers, tr_spec_PastNumbers),
(f_spec_PastBy, tr_spec_PastBy),
(f_laws_FnImageBy, tr_laws_FnImageBy)]
def haL : List Nat := []
def mc : Mc := ⟨fun f => (trL.find? (·.1 == f)).map (·.2), fun f ins => if haL.contains f then some ins else none⟩
theorem F_spec_l1In : mc.F f_spec_l1In = some tr_spec_l1In := rfl
theorem F_spec_l2Var : mc.F f_spec_l2Var = some tr_spec_l2Var := rfl
theorem F_spec_l1One : mc.F f_spec_l1One = some tr_spec_l1One := rfl
theorem F_spec_l1Kind : mc.F f_spec_l1Kind = some tr_spec_l1Kind := rfl
theorem F_spec_KindsOf : mc.F f_spec_KindsOf = some tr_spec_KindsOf := rfl
theorem F_spec_l2Is : mc.F f_spec_l2Is = some tr_spec_l2Is := rfl
theorem F_spec_l2Rule : mc.F f_spec_l2Rule = some tr_spec_l2Rule := rfl
theorem F_spec_SystemValid : mc.F f_spec_SystemValid = some tr_spec_SystemValid := rfl
theorem F_spec_l6Many : mc.F f_spec_l6Many = some tr_spec_l6Many := rfl
theorem F_spec_l6Widths : mc.F f_spec_l6Widths = some tr_spec_l6Widths := rfl
theorem F_spec_l6Sum : mc.F f_spec_l6Sum = some tr_spec_l6Sum := rfl
theorem F_spec_l10Wide : mc.F f_spec_l10Wide = some tr_spec_l10Wide := rfl
theorem F_spec_SizeOf : mc.F f_spec_SizeOf = some tr_spec_SizeOf := rfl
theorem F_spec_FirstState : mc.F f_spec_FirstState = some tr_spec_FirstState := rfl
theorem F_spec_l3Copy : mc.F f_spec_l3Copy = some tr_spec_l3Copy := rfl
theorem F_spec_l4State : mc.F f_spec_l4State = some tr_spec_l4State := rfl
theorem F_spec_l1Held : mc.F f_spec_l1Held = some tr_spec_l1Held := rfl
theorem F_spec_l1Truth : mc.F f_spec_l1Truth = some tr_spec_l1Truth := rfl
theorem F_spec_l1Do : mc.F f_spec_l1Do = some tr_spec_l1Do := rfl
theorem F_spec_l1Values : mc.F f_spec_l1Values = some tr_spec_l1Values := rfl
theorem F_spec_l2Last : mc.F f_spec_l2Last = some tr_spec_l2Last := rfl
theorem F_spec_l2In : mc.F f_spec_l2In = some tr_spec_l2In := rfl
theorem F_spec_l2Use : mc.F f_spec_l2Use = some tr_spec_l2Use := rfl
theorem F_spec_l2Same : mc.F f_spec_l2Same = some tr_spec_l2Same := rfl
theorem F_spec_l2Less : mc.F f_spec_l2Less = some tr_spec_l2Less := rfl
theorem F_spec_l2Put : mc.F f_spec_l2Put = some tr_spec_l2Put := rfl
theorem F_spec_l2Next : mc.F f_spec_l2Next = some tr_spec_l2Next := rfl
theorem F_spec_l4Number : mc.F f_spec_l4Number = some tr_spec_l4Number := rfl
theorem F_spec_l4Steps : mc.F f_spec_l4Steps = some tr_spec_l4Steps := rfl
theorem F_spec_l6Value : mc.F f_spec_l6Value = some tr_spec_l6Value := rfl
theorem F_spec_l6State : mc.F f_spec_l6State = some tr_spec_l6State := rfl
theorem F_spec_l10Both : mc.F f_spec_l10Both = some tr_spec_l10Both := rfl
theorem F_spec_l10Steps : mc.F f_spec_l10Steps = some tr_spec_l10Steps := rfl
theorem F_spec_l6Number : mc.F f_spec_l6Number = some tr_spec_l6Number := rfl
theorem F_spec_l8Add : mc.F f_spec_l8Add = some tr_spec_l8Add := rfl
theorem F_spec_l8Rows : mc.F f_spec_l8Rows = some tr_spec_l8Rows := rfl
theorem F_spec_l10Of : mc.F f_spec_l10Of = some tr_spec_l10Of := rfl
theorem F_spec_StepDiagram : mc.F f_spec_StepDiagram = some tr_spec_StepDiagram := rfl
theorem F_spec_l8Var : mc.F f_spec_l8Var = some tr_spec_l8Var := rfl
theorem F_spec_l8Fork : mc.F f_spec_l8Fork = some tr_spec_l8Fork := rfl
theorem F_spec_DiagramValid : mc.F f_spec_DiagramValid = some tr_spec_DiagramValid := rfl
theorem F_spec_l8Place : mc.F f_spec_l8Place = some tr_spec_l8Place := rfl
theorem F_spec_l8Count : mc.F f_spec_l8Count = some tr_spec_l8Count := rfl
theorem F_spec_DiagramCount : mc.F f_spec_DiagramCount = some tr_spec_DiagramCount := rfl
theorem F_spec_StepsCount : mc.F f_spec_StepsCount = some tr_spec_StepsCount := rfl
theorem F_impl_in : mc.F f_impl_in = some tr_impl_in := rfl
theorem F_impl_varOk : mc.F f_impl_varOk = some tr_impl_varOk := rfl
theorem F_impl_size : mc.F f_impl_size = some tr_impl_size := rfl
theorem F_impl_parts : mc.F f_impl_parts = some tr_impl_parts := rfl
theorem F_impl_kindsOf : mc.F f_impl_kindsOf = some tr_impl_kindsOf := rfl
theorem F_impl_kindOf : mc.F f_impl_kindOf = some tr_impl_kindOf := rfl
theorem F_impl_ruleOk : mc.F f_impl_ruleOk = some tr_impl_ruleOk := rfl
theorem F_impl_SystemValid : mc.F f_impl_SystemValid = some tr_impl_SystemValid := rfl
theorem F_impl_bitsFor : mc.F f_impl_bitsFor = some tr_impl_bitsFor := rfl
theorem F_impl_clone_int : mc.F f_impl_clone_int = some tr_impl_clone_int := rfl
theorem F_impl_bitsOf : mc.F f_impl_bitsOf = some tr_impl_bitsOf := rfl
theorem F_impl_bitCount : mc.F f_impl_bitCount = some tr_impl_bitCount := rfl
theorem F_impl_halfNarrow : mc.F f_impl_halfNarrow = some tr_impl_halfNarrow := rfl
theorem F_impl_stateAt : mc.F f_impl_stateAt = some tr_impl_stateAt := rfl
theorem F_impl_held : mc.F f_impl_held = some tr_impl_held := rfl
theorem F_impl_bit : mc.F f_impl_bit = some tr_impl_bit := rfl
theorem F_impl_do : mc.F f_impl_do = some tr_impl_do := rfl
theorem F_impl_eval : mc.F f_impl_eval = some tr_impl_eval := rfl
theorem F_impl_inRange : mc.F f_impl_inRange = some tr_impl_inRange := rfl
theorem F_impl_use : mc.F f_impl_use = some tr_impl_use := rfl
theorem F_cmp_isNaN_int : mc.F f_cmp_isNaN_int = some tr_cmp_isNaN_int := rfl
theorem F_cmp_Compare_int : mc.F f_cmp_Compare_int = some tr_cmp_Compare_int := rfl
theorem F_slices_Compare_Sint_int : mc.F f_slices_Compare_Sint_int = some tr_slices_Compare_Sint_int := rfl
theorem F_slices_Reverse_SSint_Sint : mc.F f_slices_Reverse_SSint_Sint = some tr_slices_Reverse_SSint_Sint := rfl
theorem F_impl_clone_Sint : mc.F f_impl_clone_Sint = some tr_impl_clone_Sint := rfl
theorem F_impl_nextStates : mc.F f_impl_nextStates = some tr_impl_nextStates := rfl
theorem F_impl_number : mc.F f_impl_number = some tr_impl_number := rfl
theorem F_impl_nexts : mc.F f_impl_nexts = some tr_impl_nexts := rfl
theorem F_impl_StepsCount : mc.F f_impl_StepsCount = some tr_impl_StepsCount := rfl
theorem F_spec_l40Open : mc.F f_spec_l40Open = some tr_spec_l40Open := rfl
theorem F_spec_l40Rd_pick : mc.F f_spec_l40Rd_pick = some tr_spec_l40Rd_pick := rfl
theorem F_spec_l40Rd_num : mc.F f_spec_l40Rd_num = some tr_spec_l40Rd_num := rfl
theorem F_spec_l2VarOf : mc.F f_spec_l2VarOf = some tr_spec_l2VarOf := rfl
theorem F_spec_l2Const : mc.F f_spec_l2Const = some tr_spec_l2Const := rfl
theorem F_spec_l2Cond : mc.F f_spec_l2Cond = some tr_spec_l2Cond := rfl
theorem F_spec_TermsValid : mc.F f_spec_TermsValid = some tr_spec_TermsValid := rfl
theorem F_spec_l1Moved : mc.F f_spec_l1Moved = some tr_spec_l1Moved := rfl
theorem F_spec_Joined : mc.F f_spec_Joined = some tr_spec_Joined := rfl
theorem F_spec_l2When : mc.F f_spec_l2When = some tr_spec_l2When := rfl
theorem F_spec_l1Number : mc.F f_spec_l1Number = some tr_spec_l1Number := rfl
theorem F_spec_l1Pick : mc.F f_spec_l1Pick = some tr_spec_l1Pick := rfl
theorem F_spec_l1Terms : mc.F f_spec_l1Terms = some tr_spec_l1Terms := rfl
theorem F_spec_l2Value : mc.F f_spec_l2Value = some tr_spec_l2Value := rfl
theorem F_spec_l2Rules : mc.F f_spec_l2Rules = some tr_spec_l2Rules := rfl
theorem F_spec_l2System : mc.F f_spec_l2System = some tr_spec_l2System := rfl
theorem F_spec_l2Any : mc.F f_spec_l2Any = some tr_spec_l2Any := rfl
theorem F_spec_l10System : mc.F f_spec_l10System = some tr_spec_l10System := rfl
theorem F_spec_l4Some : mc.F f_spec_l4Some = some tr_spec_l4Some := rfl
theorem F_spec_DrawSetDiagram : mc.F f_spec_DrawSetDiagram = some tr_spec_DrawSetDiagram := rfl
theorem F_spec_DrawImageBy : mc.F f_spec_DrawImageBy = some tr_spec_DrawImageBy := rfl
theorem F_impl_setOk : mc.F f_impl_setOk = some tr_impl_setOk := rfl
theorem F_impl_SetValid : mc.F f_impl_SetValid = some tr_impl_SetValid := rfl
theorem F_impl_listOf : mc.F f_impl_listOf = some tr_impl_listOf := rfl
theorem F_impl_over : mc.F f_impl_over = some tr_impl_over := rfl
theorem F_impl_NextNumbers : mc.F f_impl_NextNumbers = some tr_impl_NextNumbers := rfl
theorem F_impl_ImageBy : mc.F f_impl_ImageBy = some tr_impl_ImageBy := rfl
theorem F_impl_pasts : mc.F f_impl_pasts = some tr_impl_pasts := rfl
theorem F_impl_PastNumbers : mc.F f_impl_PastNumbers = some tr_impl_PastNumbers := rfl
theorem F_impl_PastBy : mc.F f_impl_PastBy = some tr_impl_PastBy := rfl
theorem F_spec_SetValid : mc.F f_spec_SetValid = some tr_spec_SetValid := rfl
theorem F_spec_l4Marks : mc.F f_spec_l4Marks = some tr_spec_l4Marks := rfl
theorem F_spec_l4Behind : mc.F f_spec_l4Behind = some tr_spec_l4Behind := rfl
theorem F_spec_l4List : mc.F f_spec_l4List = some tr_spec_l4List := rfl
theorem F_spec_NextNumbers : mc.F f_spec_NextNumbers = some tr_spec_NextNumbers := rfl
theorem F_spec_ImageBy : mc.F f_spec_ImageBy = some tr_spec_ImageBy := rfl
theorem F_laws_wcInts : mc.F f_laws_wcInts = some tr_laws_wcInts := rfl
theorem F_spec_l4Ahead : mc.F f_spec_l4Ahead = some tr_spec_l4Ahead := rfl
theorem F_spec_PastNumbers : mc.F f_spec_PastNumbers = some tr_spec_PastNumbers := rfl
theorem F_spec_PastBy : mc.F f_spec_PastBy = some tr_spec_PastBy := rfl
theorem F_laws_FnImageBy : mc.F f_laws_FnImageBy = some tr_laws_FnImageBy := rfl
end Go.Proofs.YtboikipchhgdlaaGreat
