/- What the trees come to: plain mathematics; no condition. -/
import Derived.Test.YtlfinllnfggiiaaGreatSmTrees0
namespace Go.Proofs.YtlfinllnfggiiaaGreat
open Go Go.Sm Go.Sm.Q
set_option linter.unusedSimpArgs false
set_option linter.unusedVariables false
abbrev Tm := Int × Int × Int × Int
abbrev Vr := Int × Int × Int
abbrev Ru := List Tm × List Int × List (List Tm)
abbrev Sy := List Vr × List Ru
def Few {α : Type} (l : List α) : Prop := l.length ≤ 1048576
theorem getD_lt {α : Type} {l : List α} {i : Nat} {d : α} (h : i < l.length) : l.getD i d = l[i] := by simp [h]
theorem getD_mem {α : Type} {l : List α} {i : Nat} {d : α} (h : i < l.length) : l.getD i d ∈ l := by rw [getD_lt h]; exact List.getElem_mem h
theorem lp_all {M : Mc} {b : Tr} {Q : Out → Prop} (mk : Nat → List AV) (p : Nat → Prop) (N : Nat) (us : List AV) (hus : us = mk 0)
  (hb : ∀ i, i < N → M.wp b (envOf (mk i)) (onJ (fun us => us = mk (i + 1) ∧ p i) Q))
  (he : (∀ i, i < N → p i) → M.wp b (envOf (mk N)) (onJ (fun _ => False) Q)) : M.LP b us Q := by
 refine M.lp_for Unit (fun i _ => mk i) (fun i _ => ∀ j, j < i → p j) N 0 () us hus (Nat.zero_le _) (fun j hj => absurd hj (Nat.not_lt_zero _)) ?_ ?_
 ·rintro i - hi hp
  refine M.wp_mono _ _ _ _ (onJ_mono (fun us hu => ⟨(), hu.1, fun j hj => ?_⟩) fun o h => h) (hb i hi)
  rcases Nat.lt_succ_iff_lt_or_eq.1 hj with h | rfl
  ·exact hp j h
  ·exact hu.2
 ·rintro - hp
  exact he hp
def Lt63 {α : Type} (l : List α) : Prop := l.length ≤ 9223372036854775807
def FewRu (r : Ru) : Prop := Few r.1 ∧ Few r.2.1 ∧ Few r.2.2 ∧ ∀ x ∈ r.2.2, Few x
def FewSy (s : Sy) : Prop := Few s.1 ∧ Few s.2 ∧ ∀ x ∈ s.2, FewRu x
theorem few_lim {α : Type} {l : List α} (h : Few l) : (l.length : Int) ≤ 1048576 := by unfold Few at h; omega
theorem C_spec_l1In (n a b : Int) (Q : List AV → Prop) : mc.C f_spec_l1In [⟨I, n⟩, ⟨I, a⟩, ⟨I, b⟩] Q = Q [⟨B, decide (a ≤ n ∧ n ≤ b)⟩] := by
 refine Mc.Ends.c (mc.ends F_spec_l1In ?_)
 simp (contextual := true) (maxSteps := 1000000) (disch := omega) only [↓Sd, ↓So, ↓Sk, ↓den, ↓denA, Sa, Sb, Sc, Se, O1.d, O2.d, O3.d, cmI, arI, envOf, putN, ↓reduceIte, Nat.reduceLT, Nat.reduceSub, Nat.reduceAdd, Int.reduceAdd, Int.reduceEq, Int.reduceLT, Int.reduceLE, arr_pos, arr_neg, tr_spec_l1In] <;> grind
theorem C_impl_in (n a b : Int) (Q : List AV → Prop) : mc.C f_impl_in [⟨I, n⟩, ⟨I, a⟩, ⟨I, b⟩] Q = Q [⟨B, decide (a ≤ n ∧ n ≤ b)⟩] := by
 refine Mc.Ends.c (mc.ends F_impl_in ?_)
 simp (contextual := true) (maxSteps := 1000000) (disch := omega) only [↓Sd, ↓So, ↓Sk, ↓den, ↓denA, Sa, Sb, Sc, Se, O1.d, O2.d, O3.d, cmI, arI, envOf, putN, ↓reduceIte, Nat.reduceLT, Nat.reduceSub, Nat.reduceAdd, Int.reduceAdd, Int.reduceEq, Int.reduceLT, Int.reduceLE, arr_pos, arr_neg, tr_impl_in] <;> grind
theorem C_spec_l1One (n : Int) (Q : List AV → Prop) : mc.C f_spec_l1One [⟨I, n⟩] Q = Q [⟨B, decide (n = 7)⟩] := by
 refine Mc.Ends.c (mc.ends F_spec_l1One ?_)
 simp (contextual := true) (maxSteps := 1000000) (disch := omega) only [↓Sd, ↓So, ↓Sk, ↓den, ↓denA, Sa, Sb, Sc, Se, O1.d, O2.d, O3.d, cmI, arI, envOf, putN, ↓reduceIte, Nat.reduceLT, Nat.reduceSub, Nat.reduceAdd, Int.reduceAdd, Int.reduceEq, Int.reduceLT, Int.reduceLE, arr_pos, arr_neg, tr_spec_l1One]
 grind
theorem C_impl_parts (n : Int) (Q : List AV → Prop) : mc.C f_impl_parts [⟨I, n⟩] Q = Q [⟨I, if 2 ≤ n ∧ n ≤ 9 then (if n = 7 then 1 else 2) else 0⟩, ⟨I, if 2 ≤ n ∧ n ≤ 9 then (if 7 ≤ n then 2 else 1) else 0⟩, ⟨I, if 5 ≤ n ∧ n ≤ 9 then 2 else 1⟩] := by
 refine Mc.Ends.c (mc.ends F_impl_parts ?_)
 simp (contextual := true) (maxSteps := 1000000) (disch := omega) only [↓Sd, ↓So, ↓Sk, ↓den, ↓denA, Sa, Sb, Sc, Se, O1.d, O2.d, O3.d, cmI, arI, envOf, putN, ↓reduceIte, Nat.reduceLT, Nat.reduceSub, Nat.reduceAdd, Int.reduceAdd, Int.reduceEq, Int.reduceLT, Int.reduceLE, arr_pos, arr_neg, tr_impl_parts]
 intro h1 h2 h3 h4 h5 h6 h7 h8
 rw [if_neg (by omega), if_neg (by omega), if_neg (by omega)]; exact ⟨rfl, rfl, rfl⟩
def kd (t : Tm) (ks : List Int) (vars : Int) : Int :=
 if t.1 = 0 then (if -9999 ≤ t.2.1 ∧ t.2.1 ≤ 9999 ∧ t.2.2.1 = 0 ∧ t.2.2.2 = 0 then 1 else 0)
 else if t.1 = 1 then (if 0 ≤ t.2.1 ∧ t.2.1 ≤ vars - 1 ∧ t.2.2.1 = 0 ∧ t.2.2.2 = 0 then 1 else 0)
 else if 2 ≤ t.1 ∧ t.1 ≤ 9 ∧ t.2.1 = 0 ∧ (0 ≤ t.2.2.1 ∧ t.2.2.1 < ks.length) ∧ (0 ≤ t.2.2.2 ∧ t.2.2.2 < ks.length) ∧
   ks.getD t.2.2.1.toNat 0 = (if 7 ≤ t.1 then 2 else 1) ∧ ks.getD t.2.2.2.toNat 0 = (if 7 ≤ t.1 then 2 else 1) ∧ (t.1 = 7 → t.2.2.2 = t.2.2.1) then (if 5 ≤ t.1 then 2 else 1)
 else 0
theorem kd_low {t : Tm} {ks : List Int} {vars : Int} (h : kd t ks vars ≠ 0) : kd t ks vars = if 5 ≤ t.1 ∧ t.1 ≤ 9 then 2 else 1 := by
 unfold kd at h ⊢
 grind
def kds (vars : Int) : List Tm → List Int → Option (List Int)
 | [], ks => some ks
 | t :: l, ks => if kd t ks vars = 0 then none else kds vars l (ks ++ [kd t ks vars])
def kdsOf (l : List Tm) (vars : Int) : List Int := if (0 ≤ vars ∧ vars ≤ 5) ∧ 1 ≤ l.length ∧ l.length ≤ 40 then (kds vars l []).getD [] else []
def kf (l : List Tm) (vars : Int) : Int := (kdsOf l vars).getLastD 0
theorem kds_len {vars : Int} : ∀ {l : List Tm} {ks o : List Int}, kds vars l ks = some o → o.length = ks.length + l.length
 | [], ks, o, h => by cases h; simp
 | t :: l, ks, o, h => by
  simp only [kds] at h
  split at h
  ·cases h
  ·have := kds_len h
   simp only [List.length_append, List.length_cons, List.length_nil] at this ⊢
   omega
theorem drop_cons {α : Type} {l : List α} {i : Nat} {d : α} (h : i < l.length) : l.drop i = l.getD i d :: l.drop (i + 1) := by
 rw [getD_lt h]; exact List.drop_eq_getElem_cons h
def Nt (p : Prop) : Prop := ¬ p
theorem kd_op {o n a b vars w : Int} {ks : List Int} (hw : (if 7 ≤ o then (2 : Int) else 1) = w) (h3 : 2 ≤ o ∧ o ≤ 9) (h4 : n = 0) (h5 : 0 ≤ a ∧ a < ks.length) (h6 : 0 ≤ b ∧ b < ks.length) :
  kd (o, n, a, b) ks vars = if ks.getD a.toNat 0 = w ∧ ks.getD b.toNat 0 = w ∧ (o = 7 → b = a) then (if 5 ≤ o then 2 else 1) else 0 := by
 simp only [kd, hw]
 rw [if_neg (by omega), if_neg (by omega)]
 simp only [h3, h4, h5, h6, true_and]
theorem C_spec_l1Kind (t : Tm) (ks : List Int) (vars : Int) (hv : 0 ≤ vars ∧ vars ≤ 5) (hk : ks.length ≤ 40) (Q : List AV → Prop) :
  mc.C f_spec_l1Kind [⟨I, t.1⟩, ⟨I, t.2.1⟩, ⟨I, t.2.2.1⟩, ⟨I, t.2.2.2⟩, ⟨L I, ks⟩, ⟨I, vars⟩] Q = Q [⟨I, kd t ks vars⟩] := by
 refine Mc.Ends.c (mc.ends F_spec_l1Kind ?_)
 obtain ⟨o, n, a, b⟩ := t
 generalize hK : kd (o, n, a, b) ks vars = K
 simp (contextual := true) (maxSteps := 1000000) (disch := omega) only [↓Sd, ↓So, ↓Sk, ↓den, ↓denA, Sa, Sb, Sc, Se, O1.d, O2.d, O3.d, cmI, arI, envOf, putN, ↓reduceIte, Nat.reduceLT, Nat.reduceSub, Nat.reduceAdd, Int.reduceAdd, Int.reduceEq, Int.reduceLT, Int.reduceLE, arr_pos, arr_neg, tr_spec_l1Kind, C_spec_l1In, C_spec_l1One]
 refine mc.wp_join (fun us => us = [⟨L I, ks⟩, ⟨I, vars⟩, ⟨I, o⟩, ⟨I, n⟩, ⟨I, a⟩, ⟨I, b⟩] ∧ Nt (o = 0 ∧ -9999 ≤ n ∧ n ≤ 9999 ∧ a = 0 ∧ b = 0)) ?_ ?_
 ·simp (contextual := true) (maxSteps := 1000000) (disch := omega) only [↓Sd, ↓So, ↓Sk, ↓den, ↓denA, Sa, Sb, Sc, Se, O1.d, O2.d, O3.d, cmI, arI, envOf, putN, ↓reduceIte, Nat.reduceLT, Nat.reduceSub, Nat.reduceAdd, Int.reduceAdd, Int.reduceEq, Int.reduceLT, Int.reduceLE, arr_pos, arr_neg, C_spec_l1In, C_spec_l1One]
  simp only [kd, Nt] at hK ⊢
  grind
 rintro _ ⟨rfl, h1⟩
 refine mc.wp_join (fun us => us = [⟨L I, ks⟩, ⟨I, o⟩, ⟨I, n⟩, ⟨I, a⟩, ⟨I, b⟩] ∧ Nt (o = 1 ∧ 0 ≤ n ∧ n ≤ vars - 1 ∧ a = 0 ∧ b = 0)) ?_ ?_
 ·simp (contextual := true) (maxSteps := 1000000) (disch := omega) only [↓Sd, ↓So, ↓Sk, ↓den, ↓denA, Sa, Sb, Sc, Se, O1.d, O2.d, O3.d, cmI, arI, envOf, putN, ↓reduceIte, Nat.reduceLT, Nat.reduceSub, Nat.reduceAdd, Int.reduceAdd, Int.reduceEq, Int.reduceLT, Int.reduceLE, arr_pos, arr_neg, C_spec_l1In, C_spec_l1One]
  simp only [kd, Nt] at hK ⊢
  grind
 rintro _ ⟨rfl, h2⟩
 simp (contextual := true) (maxSteps := 1000000) (disch := omega) only [↓Sd, ↓So, ↓Sk, ↓den, ↓denA, Sa, Sb, Sc, Se, O1.d, O2.d, O3.d, cmI, arI, envOf, putN, ↓reduceIte, Nat.reduceLT, Nat.reduceSub, Nat.reduceAdd, Int.reduceAdd, Int.reduceEq, Int.reduceLT, Int.reduceLE, arr_pos, arr_neg, C_spec_l1In, C_spec_l1One]
 refine ⟨fun h3 => ?_, fun h3 => ⟨fun h4 => ?_, fun h4 => ⟨fun h5 => ?_, fun h5 => ⟨fun h6 => ?_, fun h6 => ?_⟩⟩⟩⟩
 ·unfold Nt at h1 h2; simp only [kd] at hK; grind
 ·unfold Nt at h1 h2; simp only [kd] at hK; grind
 ·unfold Nt at h1 h2; simp only [kd] at hK; grind
 ·unfold Nt at h1 h2; simp only [kd] at hK; grind
 clear h1 h2
 generalize hw : (if 7 ≤ o then (2 : Int) else 1) = w
 rw [kd_op hw (by omega) (by omega) (by omega) (by omega)] at hK
 refine mc.wp_join (fun us => us = [⟨L I, ks⟩, ⟨I, w⟩, ⟨I, o⟩, ⟨I, n⟩, ⟨I, a⟩, ⟨I, b⟩]) ?_ ?_
 ·simp (contextual := true) (maxSteps := 1000000) (disch := omega) only [↓Sd, ↓So, ↓Sk, ↓den, ↓denA, Sa, Sb, Sc, Se, O1.d, O2.d, O3.d, cmI, arI, envOf, putN, ↓reduceIte, Nat.reduceLT, Nat.reduceSub, Nat.reduceAdd, Int.reduceAdd, Int.reduceEq, Int.reduceLT, Int.reduceLE, arr_pos, arr_neg, ]
  exact ⟨fun h => ⟨by rw [← hw, if_pos h], h4.symm⟩, fun h => ⟨by rw [← hw, if_neg h], h4.symm⟩⟩
 rintro _ rfl
 refine mc.wp_join (fun us => us = [⟨I, o⟩, ⟨I, n⟩, ⟨I, a⟩, ⟨I, b⟩] ∧ ks.getD a.toNat 0 = w ∧ ks.getD b.toNat 0 = w ∧ (o = 7 → b = a)) ?_ ?_
 ·simp (contextual := true) (maxSteps := 1000000) (disch := omega) only [↓Sd, ↓So, ↓Sk, ↓den, ↓denA, Sa, Sb, Sc, Se, O1.d, O2.d, O3.d, cmI, arI, envOf, putN, ↓reduceIte, Nat.reduceLT, Nat.reduceSub, Nat.reduceAdd, Int.reduceAdd, Int.reduceEq, Int.reduceLT, Int.reduceLE, arr_pos, arr_neg, C_spec_l1One]
  grind
 ·rintro _ ⟨rfl, h7, h8, h9⟩
  simp (contextual := true) (maxSteps := 1000000) (disch := omega) only [↓Sd, ↓So, ↓Sk, ↓den, ↓denA, Sa, Sb, Sc, Se, O1.d, O2.d, O3.d, cmI, arI, envOf, putN, ↓reduceIte, Nat.reduceLT, Nat.reduceSub, Nat.reduceAdd, Int.reduceAdd, Int.reduceEq, Int.reduceLT, Int.reduceLE, arr_pos, arr_neg, ]
  rw [if_pos ⟨h7, h8, h9⟩] at hK
  grind
theorem C_spec_KindsOf (l : List Tm) (vars : Int) (hl : Few l) (Q : List AV → Prop) : mc.C f_spec_KindsOf [⟨L T4, l⟩, ⟨I, vars⟩] Q = Q [⟨L I, kdsOf l vars⟩] := by
 have := few_lim hl
 refine Mc.Ends.c (mc.ends F_spec_KindsOf ?_)
 simp (contextual := true) (maxSteps := 1000000) (disch := omega) only [↓Sd, ↓So, ↓Sk, ↓den, ↓denA, Sa, Sb, Sc, Se, O1.d, O2.d, O3.d, cmI, arI, envOf, putN, ↓reduceIte, Nat.reduceLT, Nat.reduceSub, Nat.reduceAdd, Int.reduceAdd, Int.reduceEq, Int.reduceLT, Int.reduceLE, arr_pos, arr_neg, tr_spec_KindsOf, C_spec_l1In]
 unfold kdsOf
 refine ⟨fun h => by rw [if_neg (by omega)], fun h1 => ⟨fun h => by rw [if_neg (by omega)], fun h2 => ?_⟩⟩
 rw [if_pos (by omega)]
 refine mc.lp_for (List Int) (fun i s => [⟨L T4, l⟩, ⟨I, vars⟩, ⟨I, (i : Int)⟩, ⟨L I, s⟩]) (fun i s => s.length = i ∧ kds vars (l.drop i) s = kds vars l []) l.length 0 [] _ rfl (Nat.zero_le _) ⟨rfl, rfl⟩ ?_ ?_
 ·rintro i s hi ⟨hs, hk⟩
  simp (contextual := true) (maxSteps := 1000000) (disch := omega) only [↓Sd, ↓So, ↓Sk, ↓den, ↓denA, Sa, Sb, Sc, Se, O1.d, O2.d, O3.d, cmI, arI, envOf, putN, ↓reduceIte, Nat.reduceLT, Nat.reduceSub, Nat.reduceAdd, Int.reduceAdd, Int.reduceEq, Int.reduceLT, Int.reduceLE, arr_pos, arr_neg, C_spec_l1Kind (l.getD i (0, 0, 0, 0)) s vars (by omega) (by omega)]
  rw [drop_cons (d := (0, 0, 0, 0)) hi] at hk
  simp only [kds] at hk
  refine ⟨fun h => by rw [← hk, if_pos h]; rfl, fun h => ⟨by simp [hs], ?_⟩⟩
  rw [← hk, if_neg h]
 ·rintro s ⟨hs, hk⟩
  simp (contextual := true) (maxSteps := 1000000) (disch := omega) only [↓Sd, ↓So, ↓Sk, ↓den, ↓denA, Sa, Sb, Sc, Se, O1.d, O2.d, O3.d, cmI, arI, envOf, putN, ↓reduceIte, Nat.reduceLT, Nat.reduceSub, Nat.reduceAdd, Int.reduceAdd, Int.reduceEq, Int.reduceLT, Int.reduceLE, arr_pos, arr_neg, ]
  rw [← hk, List.drop_length]
  rfl
theorem kdsOf_len (l : List Tm) (vars : Int) : (kdsOf l vars).length ≤ 40 := by
 unfold kdsOf
 split
 ·cases h : kds vars l [] with
  | none => simp
  | some o => have := kds_len h; simp at this ⊢; omega
 ·simp
theorem kf_last {l : List Tm} {vars : Int} (h : 0 < (kdsOf l vars).length) : (kdsOf l vars).getD ((kdsOf l vars).length - 1) 0 = kf l vars := by
 rw [kf, List.getLastD_eq_getLast?, List.getLast?_eq_getElem?]
 rfl
theorem kf_nil {l : List Tm} {vars : Int} (h : ¬ 0 < (kdsOf l vars).length) : kf l vars = 0 := by
 have : kdsOf l vars = [] := List.eq_nil_of_length_eq_zero (by omega)
 rw [kf, this]; rfl
theorem C_spec_l2Is (l : List Tm) (vars k : Int) (hl : Few l) (hk : k ≠ 0) (Q : List AV → Prop) : mc.C f_spec_l2Is [⟨L T4, l⟩, ⟨I, vars⟩, ⟨I, k⟩] Q = Q [⟨B, decide (kf l vars = k)⟩] := by
 refine Mc.Ends.c (mc.ends F_spec_l2Is ?_)
 have hlen := kdsOf_len l vars
 simp (contextual := true) (maxSteps := 1000000) (disch := omega) only [↓Sd, ↓So, ↓Sk, ↓den, ↓denA, Sa, Sb, Sc, Se, O1.d, O2.d, O3.d, cmI, arI, envOf, putN, ↓reduceIte, Nat.reduceLT, Nat.reduceSub, Nat.reduceAdd, Int.reduceAdd, Int.reduceEq, Int.reduceLT, Int.reduceLE, arr_pos, arr_neg, tr_spec_l2Is, C_spec_KindsOf l vars hl]
 refine ⟨fun h => ?_, fun h => ?_⟩
 ·rw [kf_last (by omega)]; rfl
 ·rw [kf_nil (by omega)]; exact (decide_eq_false (Ne.symm hk)).symm
theorem C_impl_kindsOf (l : List Tm) (vars : Int) (hl : Few l) (Q : List AV → Prop) : mc.C f_impl_kindsOf [⟨L T4, l⟩, ⟨I, vars⟩] Q = Q [⟨N I, kdsOf l vars⟩] := by
 have := few_lim hl
 refine Mc.Ends.c (mc.ends F_impl_kindsOf ?_)
 simp (contextual := true) (maxSteps := 1000000) (disch := omega) only [↓Sd, ↓So, ↓Sk, ↓den, ↓denA, Sa, Sb, Sc, Se, O1.d, O2.d, O3.d, cmI, arI, envOf, putN, ↓reduceIte, Nat.reduceLT, Nat.reduceSub, Nat.reduceAdd, Int.reduceAdd, Int.reduceEq, Int.reduceLT, Int.reduceLE, arr_pos, arr_neg, tr_impl_kindsOf, C_impl_in]
 unfold kdsOf
 refine ⟨fun h => by rw [if_neg (by omega)], fun h1 => ⟨fun h => by rw [if_neg (by omega)], fun h2 => ?_⟩⟩
 rw [if_pos (by omega)]
 have h1 : 0 ≤ vars ∧ vars ≤ 5 := by omega
 have h2 : 1 ≤ l.length ∧ l.length ≤ 40 := by omega
 refine mc.lp_for (List Int) (fun i s => [⟨I, vars⟩, ⟨L T4, l⟩, ⟨I, (l.length : Int)⟩, ⟨I, (i : Int)⟩, ⟨L I, s⟩]) (fun i s => s.length = i ∧ kds vars (l.drop i) s = kds vars l []) l.length 0 [] _ rfl (Nat.zero_le _) ⟨rfl, rfl⟩ ?_ ?_
 ·rintro i s hi ⟨hs, hk⟩
  simp (contextual := true) (maxSteps := 1000000) (disch := omega) only [↓Sd, ↓So, ↓Sk, ↓den, ↓denA, Sa, Sb, Sc, Se, O1.d, O2.d, O3.d, cmI, arI, envOf, putN, ↓reduceIte, Nat.reduceLT, Nat.reduceSub, Nat.reduceAdd, Int.reduceAdd, Int.reduceEq, Int.reduceLT, Int.reduceLE, arr_pos, arr_neg, C_impl_in, C_impl_parts]
  refine mc.wp_join (fun us => us = [⟨I, vars⟩, ⟨I, if 5 ≤ (l.getD i (0, 0, 0, 0)).1 ∧ (l.getD i (0, 0, 0, 0)).1 ≤ 9 then 2 else 1⟩, ⟨B, decide (kd (l.getD i (0, 0, 0, 0)) s vars ≠ 0)⟩, ⟨L T4, l⟩, ⟨I, (l.length : Int)⟩, ⟨I, (i : Int)⟩, ⟨L I, s⟩]) ?_ ?_
  ·obtain ⟨o, n, a, b, ht⟩ : ∃ o n a b, l.getD i (0, 0, 0, 0) = (o, n, a, b) := ⟨_, _, _, _, rfl⟩
   subst hs
   rw [ht]
   generalize hK : decide (kd (o, n, a, b) s vars ≠ 0) = K
   simp (contextual := true) (maxSteps := 1000000) (disch := omega) only [↓Sd, ↓So, ↓Sk, ↓den, ↓denA, Sa, Sb, Sc, Se, O1.d, O2.d, O3.d, cmI, arI, envOf, putN, ↓reduceIte, Nat.reduceLT, Nat.reduceSub, Nat.reduceAdd, Int.reduceAdd, Int.reduceEq, Int.reduceLT, Int.reduceLE, arr_pos, arr_neg, C_impl_in, C_impl_parts, ht]
   refine ⟨fun h0 => ?_, fun h0 => ⟨fun h1 => ?_, fun h1 => ?_⟩⟩
   ·subst h0; simp only [kd, if_pos] at hK; grind
   ·subst h1; simp only [kd, if_pos] at hK; grind
   ·rw [← hK]; simp only [kd, if_neg h0, if_neg h1]; clear hK hk; grind
  ·rintro _ rfl
   rw [drop_cons (d := (0, 0, 0, 0)) hi] at hk
   simp only [kds] at hk
   simp (contextual := true) (maxSteps := 1000000) (disch := omega) only [↓Sd, ↓So, ↓Sk, ↓den, ↓denA, Sa, Sb, Sc, Se, O1.d, O2.d, O3.d, cmI, arI, envOf, putN, ↓reduceIte, Nat.reduceLT, Nat.reduceSub, Nat.reduceAdd, Int.reduceAdd, Int.reduceEq, Int.reduceLT, Int.reduceLE, arr_pos, arr_neg, ]
   refine ⟨fun h => ?_, fun h => ⟨by simp [hs], ?_⟩⟩
   ·rw [← hk, if_pos (by simpa using h)]; rfl
   ·have h : kd (l.getD i (0, 0, 0, 0)) s vars ≠ 0 := by simpa using h
    rw [← hk, if_neg h, kd_low h]
 ·rintro s ⟨hs, hk⟩
  simp (contextual := true) (maxSteps := 1000000) (disch := omega) only [↓Sd, ↓So, ↓Sk, ↓den, ↓denA, Sa, Sb, Sc, Se, O1.d, O2.d, O3.d, cmI, arI, envOf, putN, ↓reduceIte, Nat.reduceLT, Nat.reduceSub, Nat.reduceAdd, Int.reduceAdd, Int.reduceEq, Int.reduceLT, Int.reduceLE, arr_pos, arr_neg, ]
  rw [← hk, List.drop_length]
  refine ⟨?_, rfl⟩
  cases s with
  | nil => simp at hs; omega
  | cons a s => rfl
theorem C_impl_kindOf (l : List Tm) (vars : Int) (hl : Few l) (Q : List AV → Prop) : mc.C f_impl_kindOf [⟨L T4, l⟩, ⟨I, vars⟩] Q = Q [⟨I, kf l vars⟩] := by
 refine Mc.Ends.c (mc.ends F_impl_kindOf ?_)
 have hlen := kdsOf_len l vars
 simp (contextual := true) (maxSteps := 1000000) (disch := omega) only [↓Sd, ↓So, ↓Sk, ↓den, ↓denA, Sa, Sb, Sc, Se, O1.d, O2.d, O3.d, cmI, arI, envOf, putN, ↓reduceIte, Nat.reduceLT, Nat.reduceSub, Nat.reduceAdd, Int.reduceAdd, Int.reduceEq, Int.reduceLT, Int.reduceLE, arr_pos, arr_neg, tr_impl_kindOf, C_impl_kindsOf l vars hl, List.isEmpty_iff]
 refine ⟨fun h => ?_, fun h => ?_⟩
 ·rw [kf_nil (by rw [h]; simp)]
 ·have h0 : 0 < (kdsOf l vars).length := List.length_pos_iff.2 h
  simp (contextual := true) (maxSteps := 1000000) (disch := omega) only [↓Sd, ↓So, ↓Sk, ↓den, ↓denA, Sa, Sb, Sc, Se, O1.d, O2.d, O3.d, cmI, arI, envOf, putN, ↓reduceIte, Nat.reduceLT, Nat.reduceSub, Nat.reduceAdd, Int.reduceAdd, Int.reduceEq, Int.reduceLT, Int.reduceLE, arr_pos, arr_neg, ]
  exact kf_last h0
def vOk (v : Vr) : Prop := -9999 ≤ v.1 ∧ v.1 ≤ v.2.1 ∧ v.2.1 ≤ 9999 ∧ v.2.1 - v.1 < 20 ∧ v.1 ≤ v.2.2 ∧ v.2.2 ≤ v.2.1
instance (v : Vr) : Decidable (vOk v) := by unfold vOk; infer_instance
theorem C_spec_l2Var (v : Vr) (Q : List AV → Prop) : mc.C f_spec_l2Var [⟨I, v.1⟩, ⟨I, v.2.1⟩, ⟨I, v.2.2⟩] Q = Q [⟨B, decide (vOk v)⟩] := by
 refine Mc.Ends.c (mc.ends F_spec_l2Var ?_)
 generalize hK : decide (vOk v) = K
 simp (contextual := true) (maxSteps := 1000000) (disch := omega) only [↓Sd, ↓So, ↓Sk, ↓den, ↓denA, Sa, Sb, Sc, Se, O1.d, O2.d, O3.d, cmI, arI, envOf, putN, ↓reduceIte, Nat.reduceLT, Nat.reduceSub, Nat.reduceAdd, Int.reduceAdd, Int.reduceEq, Int.reduceLT, Int.reduceLE, arr_pos, arr_neg, tr_spec_l2Var, C_spec_l1In]
 simp only [vOk] at hK
 grind
theorem C_impl_varOk (v : Vr) (Q : List AV → Prop) : mc.C f_impl_varOk [⟨I, v.1⟩, ⟨I, v.2.1⟩, ⟨I, v.2.2⟩] Q = Q [⟨B, decide (vOk v)⟩] := by
 refine Mc.Ends.c (mc.ends F_impl_varOk ?_)
 generalize hK : decide (vOk v) = K
 simp (contextual := true) (maxSteps := 1000000) (disch := omega) only [↓Sd, ↓So, ↓Sk, ↓den, ↓denA, Sa, Sb, Sc, Se, O1.d, O2.d, O3.d, cmI, arI, envOf, putN, ↓reduceIte, Nat.reduceLT, Nat.reduceSub, Nat.reduceAdd, Int.reduceAdd, Int.reduceEq, Int.reduceLT, Int.reduceLE, arr_pos, arr_neg, tr_impl_varOk, C_impl_in]
 simp only [vOk] at hK
 grind
def rStep (r : Ru) (vars : Int) (i : Nat) : Prop := (0 ≤ r.2.1.getD i 0 ∧ r.2.1.getD i 0 ≤ vars - 1) ∧ (0 < i → r.2.1.getD (i - 1) 0 < r.2.1.getD i 0) ∧ kf (r.2.2.getD i []) vars = 1
def rOk (r : Ru) (vars : Int) : Prop := kf r.1 vars = 2 ∧ r.2.1.length = r.2.2.length ∧ ∀ i, i < r.2.1.length → rStep r vars i
instance (r : Ru) (v : Int) (i : Nat) : Decidable (rStep r v i) := by unfold rStep; infer_instance
instance (r : Ru) (v : Int) : Decidable (rOk r v) := by unfold rOk; infer_instance
theorem rOk_asc {r : Ru} {vars : Int} (h : ∀ i, i < r.2.1.length → rStep r vars i) : ∀ i, i < r.2.1.length → (i : Int) ≤ r.2.1.getD i 0 := by
 intro i
 induction i with
 | zero => intro hi; exact (h 0 hi).1.1
 | succ i ih =>
  intro hi
  have h1 := ih (by omega)
  have h2 := (h (i + 1) hi).2.1 (by omega)
  simp only [Nat.add_sub_cancel] at h2
  omega
theorem rOk_few {r : Ru} {vars : Int} (h : ∀ i, i < r.2.1.length → rStep r vars i) : (r.2.1.length : Int) ≤ max vars 0 := by
 rcases Nat.eq_zero_or_pos r.2.1.length with h0 | h0
 ·omega
 ·have h1 := rOk_asc h (r.2.1.length - 1) (by omega)
  have h2 := (h (r.2.1.length - 1) (by omega)).1.2
  omega
theorem C_spec_l2Rule (r : Ru) (vars : Int) (hv : 0 ≤ vars ∧ vars ≤ 5) (hr : FewRu r) (Q : List AV → Prop) : mc.C f_spec_l2Rule [⟨L T4, r.1⟩, ⟨L I, r.2.1⟩, ⟨L (L T4), r.2.2⟩, ⟨I, vars⟩] Q = Q [⟨B, decide (rOk r vars)⟩] := by
 obtain ⟨h1, h2, h3, h4⟩ := hr
 have b2 := few_lim h2
 have b3 := few_lim h3
 refine Mc.Ends.c (mc.ends F_spec_l2Rule ?_)
 generalize hK : decide (rOk r vars) = K
 simp (contextual := true) (maxSteps := 1000000) (disch := omega) only [↓Sd, ↓So, ↓Sk, ↓den, ↓denA, Sa, Sb, Sc, Se, O1.d, O2.d, O3.d, cmI, arI, envOf, putN, ↓reduceIte, Nat.reduceLT, Nat.reduceSub, Nat.reduceAdd, Int.reduceAdd, Int.reduceEq, Int.reduceLT, Int.reduceLE, arr_pos, arr_neg, tr_spec_l2Rule, C_spec_l2Is _ _ 2 h1 (by omega)]
 refine ⟨fun g => ?_, fun g1 => ⟨fun g => ?_, fun g2 => ⟨fun g => ?_, fun g3 => ?_⟩⟩⟩
 ·rw [← hK, decide_eq_false]; exact fun h => g h.1
 ·rw [← hK, decide_eq_false]; exact fun h => g (by rw [h.2.1])
 ·rw [← hK, decide_eq_false]; exact fun h => by have := rOk_few h.2.2; omega
 refine lp_all (fun i => [⟨I, vars⟩, ⟨I, (i : Int)⟩, ⟨L T4, r.1⟩, ⟨L I, r.2.1⟩, ⟨L (L T4), r.2.2⟩]) (rStep r vars) r.2.1.length _ rfl ?_ ?_
 ·intro i hi
  have hno : ¬ rStep r vars i → false = K := fun h => by rw [← hK, decide_eq_false]; exact fun h1 => h (h1.2.2 i hi)
  have h5 := h4 (r.2.2.getD i []) (getD_mem (by omega))
  simp (contextual := true) (maxSteps := 1000000) (disch := omega) only [↓Sd, ↓So, ↓Sk, ↓den, ↓denA, Sa, Sb, Sc, Se, O1.d, O2.d, O3.d, cmI, arI, envOf, putN, ↓reduceIte, Nat.reduceLT, Nat.reduceSub, Nat.reduceAdd, Int.reduceAdd, Int.reduceEq, Int.reduceLT, Int.reduceLE, arr_pos, arr_neg, ↓wpJoin, C_spec_l1In, C_spec_l2Is _ _ 1 h5 (by omega)]
  simp only [rStep] at hno ⊢
  grind
 ·intro h
  simp (contextual := true) (maxSteps := 1000000) (disch := omega) only [↓Sd, ↓So, ↓Sk, ↓den, ↓denA, Sa, Sb, Sc, Se, O1.d, O2.d, O3.d, cmI, arI, envOf, putN, ↓reduceIte, Nat.reduceLT, Nat.reduceSub, Nat.reduceAdd, Int.reduceAdd, Int.reduceEq, Int.reduceLT, Int.reduceLE, arr_pos, arr_neg, ]
  rw [← hK, decide_eq_true]; exact ⟨g1, by omega, h⟩
theorem C_impl_ruleOk (r : Ru) (vars : Int) (hv : 0 ≤ vars ∧ vars ≤ 5) (hr : FewRu r) (Q : List AV → Prop) : mc.C f_impl_ruleOk [⟨L T4, r.1⟩, ⟨L I, r.2.1⟩, ⟨L (L T4), r.2.2⟩, ⟨I, vars⟩] Q = Q [⟨B, decide (rOk r vars)⟩] := by
 obtain ⟨h1, h2, h3, h4⟩ := hr
 have b2 := few_lim h2
 have b3 := few_lim h3
 refine Mc.Ends.c (mc.ends F_impl_ruleOk ?_)
 generalize hK : decide (rOk r vars) = K
 simp (contextual := true) (maxSteps := 1000000) (disch := omega) only [↓Sd, ↓So, ↓Sk, ↓den, ↓denA, Sa, Sb, Sc, Se, O1.d, O2.d, O3.d, cmI, arI, envOf, putN, ↓reduceIte, Nat.reduceLT, Nat.reduceSub, Nat.reduceAdd, Int.reduceAdd, Int.reduceEq, Int.reduceLT, Int.reduceLE, arr_pos, arr_neg, tr_impl_ruleOk, C_impl_kindOf _ _ h1]
 refine ⟨fun g => ?_, fun g1 => ⟨fun g => ?_, fun g2 => ?_⟩⟩
 ·rw [← hK, decide_eq_false]; exact fun h => g h.1
 ·rw [← hK, decide_eq_false]; exact fun h => g (by rw [h.2.1])
 refine lp_all (fun i => [⟨I, vars⟩, ⟨L I, r.2.1⟩, ⟨I, (r.2.2.length : Int)⟩, ⟨I, (i : Int)⟩, ⟨L T4, r.1⟩, ⟨L I, r.2.1⟩, ⟨L (L T4), r.2.2⟩]) (rStep r vars) r.2.1.length _ rfl ?_ ?_
 ·intro i hi
  have hno : ¬ rStep r vars i → false = K := fun h => by rw [← hK, decide_eq_false]; exact fun h1 => h (h1.2.2 i hi)
  have h5 := h4 (r.2.2.getD i []) (getD_mem (by omega))
  simp (contextual := true) (maxSteps := 1000000) (disch := omega) only [↓Sd, ↓So, ↓Sk, ↓den, ↓denA, Sa, Sb, Sc, Se, O1.d, O2.d, O3.d, cmI, arI, envOf, putN, ↓reduceIte, Nat.reduceLT, Nat.reduceSub, Nat.reduceAdd, Int.reduceAdd, Int.reduceEq, Int.reduceLT, Int.reduceLE, arr_pos, arr_neg, ↓wpJoin, C_impl_in, C_impl_kindOf _ _ h5]
  simp only [rStep] at hno ⊢
  grind
 ·intro h
  simp (contextual := true) (maxSteps := 1000000) (disch := omega) only [↓Sd, ↓So, ↓Sk, ↓den, ↓denA, Sa, Sb, Sc, Se, O1.d, O2.d, O3.d, cmI, arI, envOf, putN, ↓reduceIte, Nat.reduceLT, Nat.reduceSub, Nat.reduceAdd, Int.reduceAdd, Int.reduceEq, Int.reduceLT, Int.reduceLE, arr_pos, arr_neg, ]
  rw [← hK, decide_eq_true]; exact ⟨g1, by omega, h⟩
def wd (v : Vr) : Int := v.2.1 - v.1 + 1
def sz (l : List Vr) : Int := l.foldl (fun n v => n * wd v) 1
def valid (s : Sy) : Prop := (1 ≤ s.1.length ∧ s.1.length ≤ 5) ∧ s.2.length ≤ 8 ∧ (∀ v ∈ s.1, vOk v) ∧ (∀ r ∈ s.2, rOk r s.1.length) ∧ sz s.1 ≤ 400
instance (s : Sy) : Decidable (valid s) := by unfold valid; infer_instance
theorem wd_ok {v : Vr} (h : vOk v) : 1 ≤ wd v ∧ wd v ≤ 20 := by unfold vOk at h; unfold wd; omega
theorem szN (l : List Vr) (n : Nat) : sz (l.take (n + 1)) = sz (l.take n) * (match l[n]? with | some v => wd v | none => 1) := by
 unfold sz
 rw [List.take_add_one, List.foldl_append]
 cases l[n]? <;> simp
theorem sz_next {l : List Vr} {i : Nat} {d : Vr} (h : i < l.length) : sz (l.take (i + 1)) = sz (l.take i) * wd (l.getD i d) := by
 rw [szN, List.getElem?_eq_getElem h, getD_lt h]
theorem mul_le {a b : Int} {p : Nat} (h1 : 1 ≤ a) (h2 : a ≤ 20 ^ p) (h3 : 1 ≤ b ∧ b ≤ 20) : 1 ≤ a * b ∧ a * b ≤ 20 ^ (p + 1) := by
 constructor
 ·have := Int.mul_le_mul h1 h3.1 (by omega) (by omega); simpa using this
 ·rw [Int.pow_succ]; exact Int.mul_le_mul h2 h3.2 (by omega) (by have : (0:Int) < 20 ^ p := Int.pow_pos (by omega); omega)
theorem sz_pos : ∀ (l : List Vr), (∀ v ∈ l, vOk v) → ∀ i, i ≤ l.length → 1 ≤ sz (l.take i) ∧ sz (l.take i) ≤ 20 ^ i := by
 intro l hl i
 induction i with
 | zero => intro _; simp [sz]
 | succ i ih =>
  intro hi
  rw [sz_next (d := (0, 0, 0)) (by omega)]
  exact mul_le (ih (by omega)).1 (ih (by omega)).2 (wd_ok (hl _ (getD_mem (by omega))))
theorem mul_bd {a b : Int} (h1 : 1 ≤ a ∧ a ≤ 3200000) (h3 : 1 ≤ b ∧ b ≤ 20) : 1 ≤ a * b ∧ a * b ≤ 64000000 := by
 constructor
 ·have := Int.mul_le_mul h1.1 h3.1 (by omega) (by omega); simpa using this
 ·have := Int.mul_le_mul h1.2 h3.2 (by omega) (by omega); omega
theorem pow20 {i : Nat} (h : i ≤ 5) : (20 : Int) ^ i ≤ 3200000 := by
 have : i = 0 ∨ i = 1 ∨ i = 2 ∨ i = 3 ∨ i = 4 ∨ i = 5 := by omega
 rcases this with rfl | rfl | rfl | rfl | rfl | rfl <;> decide
theorem all_get {α : Type} {l : List α} {p : α → Prop} {d : α} (h : ∀ i, i < l.length → p (l.getD i d)) : ∀ x ∈ l, p x := by
 intro x hx
 obtain ⟨i, hi, rfl⟩ := List.getElem_of_mem hx
 have := h i hi
 rwa [getD_lt hi] at this
theorem sz_get {l : List Vr} {i : Nat} (h5 : l.length ≤ 5) (hi : i ≤ l.length) (h : ∀ j, j < i → vOk (l.getD j (0, 0, 0))) : 1 ≤ sz (l.take i) ∧ sz (l.take i) ≤ 3200000 := by
 have h1 := sz_pos (l.take i) (fun v hv => by
  obtain ⟨j, hj, rfl⟩ := List.getElem_of_mem hv
  rw [List.length_take] at hj
  have := h j (by omega)
  rw [getD_lt (by omega)] at this
  simpa using this) i (by simp; omega)
 rw [List.take_take, Nat.min_self] at h1
 have := pow20 (i := i) (by omega)
 omega
theorem C_spec_SystemValid (s : Sy) (hs : FewSy s) (Q : List AV → Prop) : mc.C f_spec_SystemValid [⟨L V3, s.1⟩, ⟨L TR, s.2⟩] Q = Q [⟨B, decide (valid s)⟩] := by
 obtain ⟨h1, h2, h3⟩ := hs
 have b1 := few_lim h1
 have b2 := few_lim h2
 refine Mc.Ends.c (mc.ends F_spec_SystemValid ?_)
 generalize hK : decide (valid s) = K
 simp (contextual := true) (maxSteps := 1000000) (disch := omega) only [↓Sd, ↓So, ↓Sk, ↓den, ↓denA, Sa, Sb, Sc, Se, O1.d, O2.d, O3.d, cmI, arI, envOf, putN, ↓reduceIte, Nat.reduceLT, Nat.reduceSub, Nat.reduceAdd, Int.reduceAdd, Int.reduceEq, Int.reduceLT, Int.reduceLE, arr_pos, arr_neg, tr_spec_SystemValid, C_spec_l1In]
 refine ⟨fun g => ?_, fun g1 => ⟨fun g => ?_, fun g2 => ?_⟩⟩
 ·rw [← hK, decide_eq_false]; exact fun h => g (by have := h.1; omega)
 ·rw [← hK, decide_eq_false]; exact fun h => by have := h.2.1; omega
 refine mc.lp_for Int (fun i n => [⟨I, n⟩, ⟨I, (i : Int)⟩, ⟨L V3, s.1⟩, ⟨L TR, s.2⟩]) (fun i n => n = sz (s.1.take i) ∧ ∀ j, j < i → vOk (s.1.getD j (0, 0, 0))) s.1.length 0 1 _ rfl (Nat.zero_le _) ⟨rfl, fun j hj => absurd hj (Nat.not_lt_zero _)⟩ ?_ ?_
 ·rintro i n hi ⟨rfl, hv⟩
  have hn := sz_get (by omega) (by omega) hv
  have hno : ¬ vOk (s.1.getD i (0, 0, 0)) → false = K := fun h => by rw [← hK, decide_eq_false]; exact fun h1 => h (h1.2.2.1 _ (getD_mem hi))
  simp (contextual := true) (maxSteps := 1000000) (disch := omega) only [↓Sd, ↓So, ↓Sk, ↓den, ↓denA, Sa, Sb, Sc, Se, O1.d, O2.d, O3.d, cmI, arI, envOf, putN, ↓reduceIte, Nat.reduceLT, Nat.reduceSub, Nat.reduceAdd, Int.reduceAdd, Int.reduceEq, Int.reduceLT, Int.reduceLE, arr_pos, arr_neg, C_spec_l2Var]
  refine ⟨hno, fun hy => ?_⟩
  have hw := wd_ok hy
  have hm := mul_bd hn hw
  have hw2 := hy
  unfold vOk at hw2
  unfold wd at hm
  simp (contextual := true) (maxSteps := 1000000) (disch := omega) only [↓Sd, ↓So, ↓Sk, ↓den, ↓denA, Sa, Sb, Sc, Se, O1.d, O2.d, O3.d, cmI, arI, envOf, putN, ↓reduceIte, Nat.reduceLT, Nat.reduceSub, Nat.reduceAdd, Int.reduceAdd, Int.reduceEq, Int.reduceLT, Int.reduceLE, arr_pos, arr_neg, ]
  refine ⟨by rw [sz_next (d := (0, 0, 0)) hi]; rfl, fun j hj => ?_⟩
  rcases Nat.lt_succ_iff_lt_or_eq.1 hj with h | rfl
  ·exact hv j h
  ·exact hy
 ·rintro n ⟨rfl, hv⟩
  rw [List.take_length]
  have hn := sz_get (by omega) (Nat.le_refl _) hv
  rw [List.take_length] at hn
  simp (contextual := true) (maxSteps := 1000000) (disch := omega) only [↓Sd, ↓So, ↓Sk, ↓den, ↓denA, Sa, Sb, Sc, Se, O1.d, O2.d, O3.d, cmI, arI, envOf, putN, ↓reduceIte, Nat.reduceLT, Nat.reduceSub, Nat.reduceAdd, Int.reduceAdd, Int.reduceEq, Int.reduceLT, Int.reduceLE, arr_pos, arr_neg, ]
  refine lp_all (fun i => [⟨I, sz s.1⟩, ⟨I, (i : Int)⟩, ⟨L V3, s.1⟩, ⟨L TR, s.2⟩]) (fun i => rOk (s.2.getD i ([], [], [])) s.1.length) s.2.length _ rfl ?_ ?_
  ·intro i hi
   have hno : ¬ rOk (s.2.getD i ([], [], [])) s.1.length → false = K := fun h => by rw [← hK, decide_eq_false]; exact fun h1 => h (h1.2.2.2.1 _ (getD_mem hi))
   have h4 := h3 _ (getD_mem (d := ([], [], [])) hi)
   simp (contextual := true) (maxSteps := 1000000) (disch := omega) only [↓Sd, ↓So, ↓Sk, ↓den, ↓denA, Sa, Sb, Sc, Se, O1.d, O2.d, O3.d, cmI, arI, envOf, putN, ↓reduceIte, Nat.reduceLT, Nat.reduceSub, Nat.reduceAdd, Int.reduceAdd, Int.reduceEq, Int.reduceLT, Int.reduceLE, arr_pos, arr_neg, C_spec_l2Rule (s.2.getD i ([], [], [])) (s.1.length : Int) (by omega) h4]
   exact hno
  ·intro h
   simp (contextual := true) (maxSteps := 1000000) (disch := omega) only [↓Sd, ↓So, ↓Sk, ↓den, ↓denA, Sa, Sb, Sc, Se, O1.d, O2.d, O3.d, cmI, arI, envOf, putN, ↓reduceIte, Nat.reduceLT, Nat.reduceSub, Nat.reduceAdd, Int.reduceAdd, Int.reduceEq, Int.reduceLT, Int.reduceLE, arr_pos, arr_neg, ]
   rw [← hK]
   have a1 := all_get hv
   have a2 := all_get (p := fun r => rOk r s.1.length) h
   by_cases h4 : sz s.1 ≤ 400
   ·rw [decide_eq_true h4, decide_eq_true]; exact ⟨by omega, by omega, a1, a2, h4⟩
   ·rw [decide_eq_false h4, decide_eq_false]; exact fun h => h4 h.2.2.2.2
theorem C_impl_size (l : List Vr) (h5 : l.length ≤ 5) (hv : ∀ v ∈ l, vOk v) (Q : List AV → Prop) : mc.C f_impl_size [⟨L V3, l⟩] Q = Q [⟨I, sz l⟩] := by
 refine Mc.Ends.c (mc.ends F_impl_size ?_)
 simp (contextual := true) (maxSteps := 1000000) (disch := omega) only [↓Sd, ↓So, ↓Sk, ↓den, ↓denA, Sa, Sb, Sc, Se, O1.d, O2.d, O3.d, cmI, arI, envOf, putN, ↓reduceIte, Nat.reduceLT, Nat.reduceSub, Nat.reduceAdd, Int.reduceAdd, Int.reduceEq, Int.reduceLT, Int.reduceLE, arr_pos, arr_neg, tr_impl_size]
 refine mc.lp_for Int (fun i n => [⟨I, n⟩, ⟨L V3, l⟩, ⟨I, (l.length : Int)⟩, ⟨I, (i : Int)⟩]) (fun i n => n = sz (l.take i)) l.length 0 1 _ rfl (Nat.zero_le _) rfl ?_ ?_
 ·rintro i n hi rfl
  have hn := sz_get (l := l) h5 (by omega) fun j hj => hv _ (getD_mem (Nat.lt_trans hj hi))
  have hy := hv _ (getD_mem (d := (0, 0, 0)) hi)
  have hw := wd_ok hy
  have hm := mul_bd hn hw
  unfold vOk at hy
  unfold wd at hm
  simp (contextual := true) (maxSteps := 1000000) (disch := omega) only [↓Sd, ↓So, ↓Sk, ↓den, ↓denA, Sa, Sb, Sc, Se, O1.d, O2.d, O3.d, cmI, arI, envOf, putN, ↓reduceIte, Nat.reduceLT, Nat.reduceSub, Nat.reduceAdd, Int.reduceAdd, Int.reduceEq, Int.reduceLT, Int.reduceLE, arr_pos, arr_neg, ]
  rw [sz_next (d := (0, 0, 0)) hi]; rfl
 ·rintro n rfl
  simp (contextual := true) (maxSteps := 1000000) (disch := omega) only [↓Sd, ↓So, ↓Sk, ↓den, ↓denA, Sa, Sb, Sc, Se, O1.d, O2.d, O3.d, cmI, arI, envOf, putN, ↓reduceIte, Nat.reduceLT, Nat.reduceSub, Nat.reduceAdd, Int.reduceAdd, Int.reduceEq, Int.reduceLT, Int.reduceLE, arr_pos, arr_neg, ]
  rw [List.take_length]
theorem C_impl_SystemValid (s : Sy) (hs : FewSy s) (Q : List AV → Prop) : mc.C f_impl_SystemValid [⟨L V3, s.1⟩, ⟨L TR, s.2⟩] Q = Q [⟨B, decide (valid s)⟩] := by
 obtain ⟨h1, h2, h3⟩ := hs
 have b1 := few_lim h1
 have b2 := few_lim h2
 refine Mc.Ends.c (mc.ends F_impl_SystemValid ?_)
 generalize hK : decide (valid s) = K
 simp (contextual := true) (maxSteps := 1000000) (disch := omega) only [↓Sd, ↓So, ↓Sk, ↓den, ↓denA, Sa, Sb, Sc, Se, O1.d, O2.d, O3.d, cmI, arI, envOf, putN, ↓reduceIte, Nat.reduceLT, Nat.reduceSub, Nat.reduceAdd, Int.reduceAdd, Int.reduceEq, Int.reduceLT, Int.reduceLE, arr_pos, arr_neg, tr_impl_SystemValid]
 refine mc.wp_join (fun us => us = [⟨L V3, s.1⟩, ⟨L TR, s.2⟩] ∧ (1 ≤ s.1.length ∧ s.1.length ≤ 5) ∧ s.2.length ≤ 8 ∧ (∀ v ∈ s.1, vOk v) ∧ sz s.1 ≤ 400) ?_ ?_
 ·simp (contextual := true) (maxSteps := 1000000) (disch := omega) only [↓Sd, ↓So, ↓Sk, ↓den, ↓denA, Sa, Sb, Sc, Se, O1.d, O2.d, O3.d, cmI, arI, envOf, putN, ↓reduceIte, Nat.reduceLT, Nat.reduceSub, Nat.reduceAdd, Int.reduceAdd, Int.reduceEq, Int.reduceLT, Int.reduceLE, arr_pos, arr_neg, C_impl_in]
  refine ⟨fun g => ?_, fun g1 => ⟨fun g => ?_, fun g2 => ?_⟩⟩
  ·rw [← hK, decide_eq_false]; exact fun h => g (by have := h.1; omega)
  ·rw [← hK, decide_eq_false]; exact fun h => by have := h.2.1; omega
  refine lp_all (fun i => [⟨L V3, s.1⟩, ⟨I, (s.1.length : Int)⟩, ⟨I, (i : Int)⟩, ⟨L V3, s.1⟩, ⟨L TR, s.2⟩]) (fun i => vOk (s.1.getD i (0, 0, 0))) s.1.length _ rfl ?_ ?_
  ·intro i hi
   have hno : ¬ vOk (s.1.getD i (0, 0, 0)) → false = K := fun h => by rw [← hK, decide_eq_false]; exact fun h1 => h (h1.2.2.1 _ (getD_mem hi))
   simp (contextual := true) (maxSteps := 1000000) (disch := omega) only [↓Sd, ↓So, ↓Sk, ↓den, ↓denA, Sa, Sb, Sc, Se, O1.d, O2.d, O3.d, cmI, arI, envOf, putN, ↓reduceIte, Nat.reduceLT, Nat.reduceSub, Nat.reduceAdd, Int.reduceAdd, Int.reduceEq, Int.reduceLT, Int.reduceLE, arr_pos, arr_neg, C_impl_varOk]
   exact hno
  ·intro hv
   have hv := all_get hv
   simp (contextual := true) (maxSteps := 1000000) (disch := omega) only [↓Sd, ↓So, ↓Sk, ↓den, ↓denA, Sa, Sb, Sc, Se, O1.d, O2.d, O3.d, cmI, arI, envOf, putN, ↓reduceIte, Nat.reduceLT, Nat.reduceSub, Nat.reduceAdd, Int.reduceAdd, Int.reduceEq, Int.reduceLT, Int.reduceLE, arr_pos, arr_neg, C_impl_size s.1 (by omega) hv]
   refine ⟨fun h => ?_, fun h => ⟨by omega, by omega, hv, by omega⟩⟩
   rw [← hK, decide_eq_false]; exact fun h1 => by have := h1.2.2.2.2; omega
 rintro _ ⟨rfl, g1, g2, g3, g4⟩
 simp (contextual := true) (maxSteps := 1000000) (disch := omega) only [↓Sd, ↓So, ↓Sk, ↓den, ↓denA, Sa, Sb, Sc, Se, O1.d, O2.d, O3.d, cmI, arI, envOf, putN, ↓reduceIte, Nat.reduceLT, Nat.reduceSub, Nat.reduceAdd, Int.reduceAdd, Int.reduceEq, Int.reduceLT, Int.reduceLE, arr_pos, arr_neg, ]
 refine lp_all (fun i => [⟨L TR, s.2⟩, ⟨I, (s.2.length : Int)⟩, ⟨I, (i : Int)⟩, ⟨L V3, s.1⟩, ⟨L TR, s.2⟩]) (fun i => rOk (s.2.getD i ([], [], [])) s.1.length) s.2.length _ rfl ?_ ?_
 ·intro i hi
  have hno : ¬ rOk (s.2.getD i ([], [], [])) s.1.length → false = K := fun h => by rw [← hK, decide_eq_false]; exact fun h1 => h (h1.2.2.2.1 _ (getD_mem hi))
  have h4 := h3 _ (getD_mem (d := ([], [], [])) hi)
  simp (contextual := true) (maxSteps := 1000000) (disch := omega) only [↓Sd, ↓So, ↓Sk, ↓den, ↓denA, Sa, Sb, Sc, Se, O1.d, O2.d, O3.d, cmI, arI, envOf, putN, ↓reduceIte, Nat.reduceLT, Nat.reduceSub, Nat.reduceAdd, Int.reduceAdd, Int.reduceEq, Int.reduceLT, Int.reduceLE, arr_pos, arr_neg, C_impl_ruleOk (s.2.getD i ([], [], [])) (s.1.length : Int) (by omega) h4]
  intro h
  have := hno h
  have h0 : (i : Int) ≥ 0 := by omega
  simpa [h0] using this
 ·intro h
  simp (contextual := true) (maxSteps := 1000000) (disch := omega) only [↓Sd, ↓So, ↓Sk, ↓den, ↓denA, Sa, Sb, Sc, Se, O1.d, O2.d, O3.d, cmI, arI, envOf, putN, ↓reduceIte, Nat.reduceLT, Nat.reduceSub, Nat.reduceAdd, Int.reduceAdd, Int.reduceEq, Int.reduceLT, Int.reduceLE, arr_pos, arr_neg, ]
  rw [← hK]
  have a2 := all_get (p := fun r => rOk r s.1.length) h
  rw [decide_eq_true (show valid s from ⟨g1, g2, g3, a2, g4⟩)]
  rfl
theorem C_spec_SizeOf (s : Sy) (hs : FewSy s) (Q : List AV → Prop) : mc.C f_spec_SizeOf [⟨L V3, s.1⟩, ⟨L TR, s.2⟩] Q = Q [⟨I, if valid s then sz s.1 else 0⟩] := by
 refine Mc.Ends.c (mc.ends F_spec_SizeOf ?_)
 simp (contextual := true) (maxSteps := 1000000) (disch := omega) only [↓Sd, ↓So, ↓Sk, ↓den, ↓denA, Sa, Sb, Sc, Se, O1.d, O2.d, O3.d, cmI, arI, envOf, putN, ↓reduceIte, Nat.reduceLT, Nat.reduceSub, Nat.reduceAdd, Int.reduceAdd, Int.reduceEq, Int.reduceLT, Int.reduceLE, arr_pos, arr_neg, tr_spec_SizeOf, C_spec_SystemValid s hs]
 intro h
 obtain ⟨h5, -, hv, -⟩ := h
 refine mc.lp_for Int (fun i n => [⟨I, n⟩, ⟨I, (i : Int)⟩, ⟨L V3, s.1⟩, ⟨L TR, s.2⟩]) (fun i n => n = sz (s.1.take i)) s.1.length 0 1 _ rfl (Nat.zero_le _) rfl ?_ ?_
 ·rintro i n hi rfl
  have hn := sz_get (l := s.1) h5.2 (by omega) fun j hj => hv _ (getD_mem (Nat.lt_trans hj hi))
  have hy := hv _ (getD_mem (d := (0, 0, 0)) hi)
  have hw := wd_ok hy
  have hm := mul_bd hn hw
  unfold vOk at hy
  unfold wd at hm
  simp (contextual := true) (maxSteps := 1000000) (disch := omega) only [↓Sd, ↓So, ↓Sk, ↓den, ↓denA, Sa, Sb, Sc, Se, O1.d, O2.d, O3.d, cmI, arI, envOf, putN, ↓reduceIte, Nat.reduceLT, Nat.reduceSub, Nat.reduceAdd, Int.reduceAdd, Int.reduceEq, Int.reduceLT, Int.reduceLE, arr_pos, arr_neg, ]
  rw [sz_next (d := (0, 0, 0)) hi]; rfl
 ·rintro n rfl
  simp (contextual := true) (maxSteps := 1000000) (disch := omega) only [↓Sd, ↓So, ↓Sk, ↓den, ↓denA, Sa, Sb, Sc, Se, O1.d, O2.d, O3.d, cmI, arI, envOf, putN, ↓reduceIte, Nat.reduceLT, Nat.reduceSub, Nat.reduceAdd, Int.reduceAdd, Int.reduceEq, Int.reduceLT, Int.reduceLE, arr_pos, arr_neg, ]
  rw [List.take_length]
def hd (n : Int) : Int := if n > 9999 then 9999 else if n < -9999 then -9999 else n
def doM (o a b : Int) : Int :=
 if o = 2 then hd (a + b) else if o = 3 then hd (a - b) else if o = 4 then hd (a * b)
 else if o = 5 then (if a < b then 1 else 0) else if o = 6 then (if a = b then 1 else 0)
 else if o = 7 then 1 - a else if o = 8 then a * b else (if a + b > 0 then 1 else 0)
def Bd4 (n : Int) : Prop := -9999 ≤ n ∧ n ≤ 9999
def Bit (n : Int) : Prop := n = 0 ∨ n = 1
theorem hd_bd (n : Int) : Bd4 (hd n) := by
 unfold hd Bd4
 split
 ·omega
 ·split <;> omega
theorem mul4 {a b : Int} (ha : Bd4 a) (hb : Bd4 b) : -100000000 ≤ a * b ∧ a * b ≤ 100000000 := by
 unfold Bd4 at ha hb
 have h1 : a.natAbs ≤ 9999 := by omega
 have h2 : b.natAbs ≤ 9999 := by omega
 have h3 : (a * b).natAbs ≤ 9999 * 9999 := by rw [Int.natAbs_mul]; exact Nat.mul_le_mul h1 h2
 omega
theorem C_impl_held (n : Int) (Q : List AV → Prop) : mc.C f_impl_held [⟨I, n⟩] Q = Q [⟨I, hd n⟩] := by
 refine Mc.Ends.c (mc.ends F_impl_held ?_)
 generalize hK : hd n = K
 simp (contextual := true) (maxSteps := 1000000) (disch := omega) only [↓Sd, ↓So, ↓Sk, ↓den, ↓denA, Sa, Sb, Sc, Se, O1.d, O2.d, O3.d, cmI, arI, envOf, putN, ↓reduceIte, Nat.reduceLT, Nat.reduceSub, Nat.reduceAdd, Int.reduceAdd, Int.reduceEq, Int.reduceLT, Int.reduceLE, arr_pos, arr_neg, tr_impl_held]
 unfold hd at hK
 grind
theorem C_impl_bit (b : Bool) (Q : List AV → Prop) : mc.C f_impl_bit [⟨B, b⟩] Q = Q [⟨I, if b = true then 1 else 0⟩] := by
 refine Mc.Ends.c (mc.ends F_impl_bit ?_)
 generalize hK : (if b = true then (1 : Int) else 0) = K
 simp (contextual := true) (maxSteps := 1000000) (disch := omega) only [↓Sd, ↓So, ↓Sk, ↓den, ↓denA, Sa, Sb, Sc, Se, O1.d, O2.d, O3.d, cmI, arI, envOf, putN, ↓reduceIte, Nat.reduceLT, Nat.reduceSub, Nat.reduceAdd, Int.reduceAdd, Int.reduceEq, Int.reduceLT, Int.reduceLE, arr_pos, arr_neg, tr_impl_bit]
 grind
theorem C_impl_do (o a b : Int) (ha : Bd4 a) (hb : Bd4 b) (ho : 2 ≤ o ∧ o ≤ 9) (h8 : 8 ≤ o → Bit a ∧ Bit b) (Q : List AV → Prop) : mc.C f_impl_do [⟨I, o⟩, ⟨I, a⟩, ⟨I, b⟩] Q = Q [⟨I, doM o a b⟩] := by
 have hm := mul4 ha hb
 unfold Bd4 at ha hb
 refine Mc.Ends.c (mc.ends F_impl_do ?_)
 generalize hK : doM o a b = K
 simp (contextual := true) (maxSteps := 1000000) (disch := omega) only [↓Sd, ↓So, ↓Sk, ↓den, ↓denA, Sa, Sb, Sc, Se, O1.d, O2.d, O3.d, cmI, arI, envOf, putN, ↓reduceIte, Nat.reduceLT, Nat.reduceSub, Nat.reduceAdd, Int.reduceAdd, Int.reduceEq, Int.reduceLT, Int.reduceLE, arr_pos, arr_neg, tr_impl_do, C_impl_held, C_impl_bit]
 unfold doM at hK
 unfold Bit at h8
 grind (splits := 30)
theorem doM_bd {o a b : Int} (ha : Bd4 a) (hb : Bd4 b) (h7 : 7 ≤ o → Bit a ∧ Bit b) : Bd4 (doM o a b) := by
 unfold doM
 have h1 := hd_bd (a + b); have h2 := hd_bd (a - b); have h3 := hd_bd (a * b)
 unfold Bd4 Bit at *
 grind (splits := 30)
theorem doM_bit {o a b : Int} (ho : 5 ≤ o) (h7 : 7 ≤ o → Bit a ∧ Bit b) : Bit (doM o a b) := by
 unfold doM
 unfold Bit at *
 grind
def ev1 (st : List Int) (t : Tm) (vs : List Int) : Int :=
 if t.1 = 0 then t.2.1 else if t.1 = 1 then st.getD t.2.1.toNat 0 else doM t.1 (vs.getD t.2.2.1.toNat 0) (vs.getD t.2.2.2.toNat 0)
def evs (st : List Int) : List Tm → List Int → List Int
 | [], vs => vs
 | t :: l, vs => evs st l (vs ++ [ev1 st t vs])
def evl (l : List Tm) (st : List Int) : Int := (evs st l []).getD (l.length - 1) 0
def KV (ks vs : List Int) : Prop := ks.length = vs.length ∧ ∀ j, j < vs.length → Bd4 (vs.getD j 0) ∧ (ks.getD j 0 = 2 → Bit (vs.getD j 0))
def Bds (st : List Int) : Prop := ∀ j, j < st.length → Bd4 (st.getD j 0)
theorem getD_snoc {l : List Int} {x : Int} {j : Nat} : (l ++ [x]).getD j 0 = if j < l.length then l.getD j 0 else if j = l.length then x else 0 := by
 simp only [List.getD_eq_getElem?_getD, List.getElem?_append]
 by_cases h1 : j < l.length
 ·simp [h1]
 ·by_cases h2 : j = l.length
  ·simp [h2]
  ·have : (j - l.length) ≠ 0 := by omega
   simp [h1, h2, List.getElem?_singleton, this]
theorem of_ite_ne {p : Prop} [Decidable p] {x : Int} (h : (if p then x else 0) ≠ 0) : p := Classical.byContradiction fun hn => h (if_neg hn)
theorem kd_ne {t : Tm} {ks : List Int} {vars : Int} (h : kd t ks vars ≠ 0) : (t.1 = 0 ∧ Bd4 t.2.1) ∨ (t.1 = 1 ∧ 0 ≤ t.2.1 ∧ t.2.1 < vars) ∨
  ((2 ≤ t.1 ∧ t.1 ≤ 9) ∧ (0 ≤ t.2.2.1 ∧ t.2.2.1 < ks.length) ∧ (0 ≤ t.2.2.2 ∧ t.2.2.2 < ks.length) ∧ (7 ≤ t.1 → ks.getD t.2.2.1.toNat 0 = 2 ∧ ks.getD t.2.2.2.toNat 0 = 2)) := by
 unfold kd at h
 split at h
 ·rename_i h0
  split at h
  ·rename_i h1; exact .inl ⟨h0, h1.1, h1.2.1⟩
  ·exact absurd rfl h
 ·split at h
  ·rename_i h0
   split at h
   ·rename_i h1; exact .inr (.inl ⟨h0, h1.1, by omega⟩)
   ·exact absurd rfl h
  ·obtain ⟨a1, a2, a3, a4, a5, a6, a7, a8⟩ := of_ite_ne h
   exact .inr (.inr ⟨⟨a1, a2⟩, a4, a5, fun h7 => by rw [if_pos h7] at a6 a7; exact ⟨a6, a7⟩⟩)
theorem KV.args {ks vs st : List Int} {t : Tm} (hkv : KV ks vs) (h : (2 ≤ t.1 ∧ t.1 ≤ 9) ∧ (0 ≤ t.2.2.1 ∧ t.2.2.1 < ks.length) ∧ (0 ≤ t.2.2.2 ∧ t.2.2.2 < ks.length) ∧ (7 ≤ t.1 → ks.getD t.2.2.1.toNat 0 = 2 ∧ ks.getD t.2.2.2.toNat 0 = 2)) :
  Bd4 (vs.getD t.2.2.1.toNat 0) ∧ Bd4 (vs.getD t.2.2.2.toNat 0) ∧ (7 ≤ t.1 → Bit (vs.getD t.2.2.1.toNat 0) ∧ Bit (vs.getD t.2.2.2.toNat 0)) := by
 obtain ⟨h1, h2, h3, h4⟩ := h
 have hl := hkv.1
 have g1 := hkv.2 t.2.2.1.toNat (by omega)
 have g2 := hkv.2 t.2.2.2.toNat (by omega)
 exact ⟨g1.1, g2.1, fun h7 => ⟨g1.2 (h4 h7).1, g2.2 (h4 h7).2⟩⟩
theorem KV.next {ks vs st : List Int} {t : Tm} {vars : Int} (hkv : KV ks vs) (hst : Bds st) (hv : vars = st.length) (h : kd t ks vars ≠ 0) : KV (ks ++ [kd t ks vars]) (vs ++ [ev1 st t vs]) := by
 have hk := kd_low h
 have hlen := hkv.1
 refine ⟨by simp [hkv.1], fun j hj => ?_⟩
 simp only [List.length_append, List.length_cons, List.length_nil, Nat.zero_add] at hj
 rw [getD_snoc, getD_snoc, hkv.1]
 by_cases h1 : j < vs.length
 ·rw [if_pos h1, if_pos h1]; exact hkv.2 j h1
 ·have h2 : j = vs.length := by omega
  rw [if_neg h1, if_neg h1, if_pos h2, if_pos h2, hk]
  rcases kd_ne h with ⟨e, h3⟩ | ⟨e, h3, h4⟩ | h3
  ·unfold ev1; rw [if_pos e]; exact ⟨h3, by intro h; rw [if_neg (by omega)] at h; omega⟩
  ·unfold ev1; rw [if_neg (by omega), if_pos e]; exact ⟨hst _ (by omega), by intro h; rw [if_neg (by omega)] at h; omega⟩
  ·obtain ⟨a1, a2, a3⟩ := hkv.args (st := st) h3
   unfold ev1; rw [if_neg (by omega), if_neg (by omega)]
   exact ⟨doM_bd a1 a2 a3, fun h5 => doM_bit (by split at h5 <;> omega) a3⟩
theorem KV.nil : KV [] [] := ⟨rfl, fun j hj => absurd hj (Nat.not_lt_zero _)⟩
theorem kf_some {l : List Tm} {vars : Int} (h : kf l vars ≠ 0) : ∃ o, kds vars l [] = some o ∧ (1 ≤ l.length ∧ l.length ≤ 40) ∧ kf l vars = o.getD (l.length - 1) 0 := by
 unfold kf kdsOf at h ⊢
 split at h
 ·rename_i h1
  rw [if_pos h1]
  cases ho : kds vars l [] with
  | none => rw [ho] at h; exact absurd rfl h
  | some o =>
   refine ⟨o, rfl, h1.2, ?_⟩
   have := kds_len ho
   simp only [List.length_nil, Nat.zero_add] at this
   rw [Option.getD_some, List.getLastD_eq_getLast?, List.getLast?_eq_getElem?, this]
   rfl
 ·exact absurd rfl h
theorem getD_pad {l : List Int} {k j : Nat} : (l ++ List.replicate k 0).getD j 0 = l.getD j 0 := by
 simp only [List.getD_eq_getElem?_getD, List.getElem?_append]
 by_cases h1 : j < l.length
 ·simp [h1]
 ·simp only [h1, if_false]
  rw [List.getElem?_eq_none (by omega : l.length ≤ j), List.getElem?_replicate]
  split <;> rfl
theorem set_pad {α : Type} {l : List α} {k : Nat} {x z : α} : (l ++ List.replicate (k + 1) z).set l.length x = (l ++ [x]) ++ List.replicate k z := by
 rw [List.set_append_right _ _ (Nat.le_refl _), Nat.sub_self, List.replicate_succ, List.set_cons_zero, List.append_assoc]; rfl
theorem sub_split {n i : Nat} (h : i < n) : n - i = (n - (i + 1)) + 1 := by omega
theorem C_impl_eval (l : List Tm) (st : List Int) (vars : Int) (h : kf l vars ≠ 0) (hst : Bds st) (hv : vars = st.length) (Q : List AV → Prop) : mc.C f_impl_eval [⟨L T4, l⟩, ⟨L I, st⟩] Q = Q [⟨I, evl l st⟩] := by
 obtain ⟨o, h1, h2, h3⟩ := kf_some h
 refine Mc.Ends.c (mc.ends F_impl_eval ?_)
 simp (contextual := true) (maxSteps := 1000000) (disch := omega) only [↓Sd, ↓So, ↓Sk, ↓den, ↓denA, Sa, Sb, Sc, Se, O1.d, O2.d, O3.d, cmI, arI, envOf, putN, ↓reduceIte, Nat.reduceLT, Nat.reduceSub, Nat.reduceAdd, Int.reduceAdd, Int.reduceEq, Int.reduceLT, Int.reduceLE, arr_pos, arr_neg, tr_impl_eval]
 refine mc.lp_for (List Int) (fun i vs => [⟨L I, st⟩, ⟨L T4, l⟩, ⟨I, (l.length : Int)⟩, ⟨I, (i : Int)⟩, ⟨L I, vs ++ List.replicate (l.length - i) 0⟩]) (fun i vs => vs.length = i ∧ evs st (l.drop i) vs = evs st l [] ∧ ∃ ks, KV ks vs ∧ kds vars (l.drop i) ks = some o) l.length 0 [] _ rfl (Nat.zero_le _) ⟨rfl, rfl, [], KV.nil, h1⟩ ?_ ?_
 ·rintro i vs hi ⟨hl, hs, ks, hkv, hk⟩
  rw [drop_cons (d := (0, 0, 0, 0)) hi] at hs hk
  simp only [evs, kds] at hs hk
  split at hk
  ·cases hk
  rename_i h0
  have hn := hkv.next hst hv h0
  have ha := kd_ne h0
  have hkl := hkv.1
  obtain ⟨t, ht⟩ : ∃ t, l.getD i (0, 0, 0, 0) = t := ⟨_, rfl⟩
  rw [ht] at hs hk h0 hn ha
  have hvs : (vs.length : Int) ≤ 40 := by omega
  have hlen : (vs ++ List.replicate (l.length - i) (0 : Int)).length = l.length := by simp; omega
  have hset : ∀ x : Int, (vs ++ List.replicate (l.length - i) 0).set i x = (vs ++ [x]) ++ List.replicate (l.length - (i + 1)) 0 := by
   intro x; subst hl; rw [sub_split hi, set_pad]
  simp (contextual := true) (maxSteps := 1000000) (disch := omega) only [↓Sd, ↓So, ↓Sk, ↓den, ↓denA, Sa, Sb, Sc, Se, O1.d, O2.d, O3.d, cmI, arI, envOf, putN, ↓reduceIte, Nat.reduceLT, Nat.reduceSub, Nat.reduceAdd, Int.reduceAdd, Int.reduceEq, Int.reduceLT, Int.reduceLE, arr_pos, arr_neg, ]
  refine mc.wp_join (fun us => us = [⟨L I, st⟩, ⟨L T4, l⟩, ⟨I, (l.length : Int)⟩, ⟨I, (i : Int)⟩, ⟨L I, (vs ++ [ev1 st t vs]) ++ List.replicate (l.length - (i + 1)) 0⟩]) ?_ ?_
  ·rcases ha with ⟨e, h3⟩ | ⟨e, h3, h4⟩ | h3
   ·simp (contextual := true) (maxSteps := 1000000) (disch := omega) only [↓Sd, ↓So, ↓Sk, ↓den, ↓denA, Sa, Sb, Sc, Se, O1.d, O2.d, O3.d, cmI, arI, envOf, putN, ↓reduceIte, Nat.reduceLT, Nat.reduceSub, Nat.reduceAdd, Int.reduceAdd, Int.reduceEq, Int.reduceLT, Int.reduceLE, arr_pos, arr_neg, ht, e, ev1, hlen, hset]
   ·have e' : ¬ t.1 = 0 := by omega
    simp (contextual := true) (maxSteps := 1000000) (disch := omega) only [↓Sd, ↓So, ↓Sk, ↓den, ↓denA, Sa, Sb, Sc, Se, O1.d, O2.d, O3.d, cmI, arI, envOf, putN, ↓reduceIte, Nat.reduceLT, Nat.reduceSub, Nat.reduceAdd, Int.reduceAdd, Int.reduceEq, Int.reduceLT, Int.reduceLE, arr_pos, arr_neg, ht, e, ev1, hlen, hset]
   ·obtain ⟨a1, a2, a3⟩ := hkv.args (st := st) h3
    have e1 : ¬ t.1 = 0 := by omega
    have e2 : ¬ t.1 = 1 := by omega
    simp (contextual := true) (maxSteps := 1000000) (disch := omega) only [↓Sd, ↓So, ↓Sk, ↓den, ↓denA, Sa, Sb, Sc, Se, O1.d, O2.d, O3.d, cmI, arI, envOf, putN, ↓reduceIte, Nat.reduceLT, Nat.reduceSub, Nat.reduceAdd, Int.reduceAdd, Int.reduceEq, Int.reduceLT, Int.reduceLE, arr_pos, arr_neg, ht, e1, e2, ev1, hlen, hset, getD_pad, C_impl_do _ _ _ a1 a2 h3.1 fun h => a3 (by omega)]
  ·rintro _ rfl
   simp (contextual := true) (maxSteps := 1000000) (disch := omega) only [↓Sd, ↓So, ↓Sk, ↓den, ↓denA, Sa, Sb, Sc, Se, O1.d, O2.d, O3.d, cmI, arI, envOf, putN, ↓reduceIte, Nat.reduceLT, Nat.reduceSub, Nat.reduceAdd, Int.reduceAdd, Int.reduceEq, Int.reduceLT, Int.reduceLE, arr_pos, arr_neg, ]
   exact ⟨_, rfl, by simp [hl], hs, _, hn, hk⟩
 ·rintro vs ⟨hl, hs, -⟩
  rw [List.drop_length] at hs
  simp only [evs] at hs
  subst hs
  rw [Nat.sub_self, List.replicate_zero, List.append_nil]
  simp (contextual := true) (maxSteps := 1000000) (disch := omega) only [↓Sd, ↓So, ↓Sk, ↓den, ↓denA, Sa, Sb, Sc, Se, O1.d, O2.d, O3.d, cmI, arI, envOf, putN, ↓reduceIte, Nat.reduceLT, Nat.reduceSub, Nat.reduceAdd, Int.reduceAdd, Int.reduceEq, Int.reduceLT, Int.reduceLE, arr_pos, arr_neg, ]
  rw [hl]; rfl
def inR (vs : List Vr) (st : List Int) : Prop := st.length = vs.length ∧ ∀ i, i < vs.length → (vs.getD i (0, 0, 0)).1 ≤ st.getD i 0 ∧ st.getD i 0 ≤ (vs.getD i (0, 0, 0)).2.1
instance (vs : List Vr) (st : List Int) : Decidable (inR vs st) := by unfold inR; infer_instance
theorem inR.bds {vs : List Vr} {st : List Int} (h : inR vs st) (hv : ∀ v ∈ vs, vOk v) : Bds st := by
 intro j hj
 have h1 := h.2 j (by rw [← h.1]; exact hj)
 have h2 := hv _ (getD_mem (d := (0, 0, 0)) (by rw [← h.1]; exact hj))
 unfold vOk at h2
 unfold Bd4
 omega
theorem C_impl_inRange (s : Sy) (st : List Int) (h5 : s.1.length ≤ 5) (hl : st.length ≤ 1048576) (Q : List AV → Prop) : mc.C f_impl_inRange [⟨L V3, s.1⟩, ⟨L TR, s.2⟩, ⟨L I, st⟩] Q = Q [⟨B, decide (inR s.1 st)⟩] := by
 refine Mc.Ends.c (mc.ends F_impl_inRange ?_)
 generalize hK : decide (inR s.1 st) = K
 simp (contextual := true) (maxSteps := 1000000) (disch := omega) only [↓Sd, ↓So, ↓Sk, ↓den, ↓denA, Sa, Sb, Sc, Se, O1.d, O2.d, O3.d, cmI, arI, envOf, putN, ↓reduceIte, Nat.reduceLT, Nat.reduceSub, Nat.reduceAdd, Int.reduceAdd, Int.reduceEq, Int.reduceLT, Int.reduceLE, arr_pos, arr_neg, tr_impl_inRange]
 refine ⟨fun g => ?_, fun g1 => ?_⟩
 ·rw [← hK, decide_eq_false]; exact fun h => g (by rw [h.1])
 refine lp_all (fun i => [⟨L I, st⟩, ⟨L V3, s.1⟩, ⟨I, (s.1.length : Int)⟩, ⟨I, (i : Int)⟩]) (fun i => (s.1.getD i (0, 0, 0)).1 ≤ st.getD i 0 ∧ st.getD i 0 ≤ (s.1.getD i (0, 0, 0)).2.1) s.1.length _ rfl ?_ ?_
 ·intro i hi
  have hno : ¬ ((s.1.getD i (0, 0, 0)).1 ≤ st.getD i 0 ∧ st.getD i 0 ≤ (s.1.getD i (0, 0, 0)).2.1) → false = K := fun h => by rw [← hK, decide_eq_false]; exact fun h1 => h (h1.2 i hi)
  simp (contextual := true) (maxSteps := 1000000) (disch := omega) only [↓Sd, ↓So, ↓Sk, ↓den, ↓denA, Sa, Sb, Sc, Se, O1.d, O2.d, O3.d, cmI, arI, envOf, putN, ↓reduceIte, Nat.reduceLT, Nat.reduceSub, Nat.reduceAdd, Int.reduceAdd, Int.reduceEq, Int.reduceLT, Int.reduceLE, arr_pos, arr_neg, C_impl_in]
  exact hno
 ·intro h
  simp (contextual := true) (maxSteps := 1000000) (disch := omega) only [↓Sd, ↓So, ↓Sk, ↓den, ↓denA, Sa, Sb, Sc, Se, O1.d, O2.d, O3.d, cmI, arI, envOf, putN, ↓reduceIte, Nat.reduceLT, Nat.reduceSub, Nat.reduceAdd, Int.reduceAdd, Int.reduceEq, Int.reduceLT, Int.reduceLE, arr_pos, arr_neg, ]
  rw [← hK, decide_eq_true]; exact ⟨by omega, h⟩
theorem overL_rep {α : Type} {l : List α} {z : α} : overL (List.replicate l.length z) l = l := by
 unfold overL
 simp
theorem C_impl_clone_int (l : List Int) (hl : l.length ≤ 1048576) (Q : List AV → Prop) : mc.C f_impl_clone_int [⟨L I, l⟩] Q = Q [⟨L I, l⟩] := by
 refine Mc.Ends.c (mc.ends F_impl_clone_int ?_)
 simp (contextual := true) (maxSteps := 1000000) (disch := omega) only [↓Sd, ↓So, ↓Sk, ↓den, ↓denA, Sa, Sb, Sc, Se, O1.d, O2.d, O3.d, cmI, arI, envOf, putN, ↓reduceIte, Nat.reduceLT, Nat.reduceSub, Nat.reduceAdd, Int.reduceAdd, Int.reduceEq, Int.reduceLT, Int.reduceLE, arr_pos, arr_neg, tr_impl_clone_int, overL_rep]
 intro h
 exact (List.eq_nil_of_length_eq_zero (by omega)).symm
def upR (r : Ru) (st : List Int) (n : Nat) : List Int := (List.range n).foldl (fun o i => o.set (r.2.1.getD i 0).toNat (evl (r.2.2.getD i []) st)) st
def useM (vs : List Vr) (r : Ru) (st : List Int) : List Int := if evl r.1 st = 0 then [] else if inR vs (upR r st r.2.1.length) then upR r st r.2.1.length else []
theorem upR_next {r : Ru} {st : List Int} {n : Nat} : upR r st (n + 1) = (upR r st n).set (r.2.1.getD n 0).toNat (evl (r.2.2.getD n []) st) := by
 unfold upR; rw [List.range_succ, List.foldl_append]; rfl
theorem upR_len {r : Ru} {st : List Int} : ∀ {n : Nat}, (upR r st n).length = st.length
 | 0 => rfl
 | n + 1 => by rw [upR_next, List.length_set, upR_len]
theorem useM_in {vs : List Vr} {r : Ru} {st : List Int} (h : useM vs r st ≠ []) : inR vs (useM vs r st) := by
 unfold useM at h ⊢
 split
 ·rename_i h1; rw [if_pos h1] at h; exact absurd rfl h
 ·rename_i h1
  rw [if_neg h1] at h
  split
  ·rename_i h2; exact h2
  ·rename_i h2; rw [if_neg h2] at h; exact absurd rfl h
theorem take_next {α : Type} {l : List α} {i : Nat} {d : α} (h : i < l.length) : l.take i ++ [l.getD i d] = l.take (i + 1) := by
 rw [getD_lt h, List.take_append_getElem h]
theorem C_impl_use (s : Sy) (st : List Int) (k : Nat) (h : valid s) (hst : inR s.1 st) (hk : k < s.2.length) (Q : List AV → Prop) : mc.C f_impl_use [⟨L V3, s.1⟩, ⟨L TR, s.2⟩, ⟨L I, st⟩, ⟨I, (k : Int)⟩] Q = Q [⟨L I, useM s.1 (s.2.getD k ([], [], [])) st⟩, ⟨B, decide (useM s.1 (s.2.getD k ([], [], [])) st ≠ [])⟩] := by
 obtain ⟨⟨g0, g1⟩, g2, g3, g4, g5⟩ := h
 have hb := hst.bds g3
 have hl := hst.1
 have hr := g4 _ (getD_mem (d := ([], [], [])) hk)
 refine Mc.Ends.c (mc.ends F_impl_use ?_)
 generalize hK : useM s.1 (s.2.getD k ([], [], [])) st = K
 generalize ht : s.2.getD k ([], [], []) = r at hK hr
 obtain ⟨e1, e2, e3⟩ := hr
 have hf := rOk_few e3
 simp (contextual := true) (maxSteps := 1000000) (disch := omega) only [↓Sd, ↓So, ↓Sk, ↓den, ↓denA, Sa, Sb, Sc, Se, O1.d, O2.d, O3.d, cmI, arI, envOf, putN, ↓reduceIte, Nat.reduceLT, Nat.reduceSub, Nat.reduceAdd, Int.reduceAdd, Int.reduceEq, Int.reduceLT, Int.reduceLE, arr_pos, arr_neg, tr_impl_use, ht, C_impl_eval r.1 st s.1.length (by omega) hb (by omega), C_impl_clone_int st (by omega)]
 refine ⟨fun g => by rw [← hK, useM, if_pos g]; simp, fun g => ?_⟩
 refine mc.lp_for (List Int) (fun i o => [⟨L I, st⟩, ⟨L I, r.2.1⟩, ⟨I, (r.2.1.length : Int)⟩, ⟨I, (i : Int)⟩, ⟨L V3, s.1⟩, ⟨L TR, s.2⟩, ⟨L T4, r.1⟩, ⟨L I, r.2.1⟩, ⟨L (L T4), r.2.2⟩, ⟨L I, o⟩]) (fun i o => o = upR r st i) r.2.1.length 0 st _ rfl (Nat.zero_le _) rfl ?_ ?_
 ·rintro i o hi rfl
  obtain ⟨e4, e5, e6⟩ := e3 i hi
  have h1 : ((upR r st i).length : Int) = s.1.length := by rw [upR_len]; omega
  simp (contextual := true) (maxSteps := 1000000) (disch := omega) only [↓Sd, ↓So, ↓Sk, ↓den, ↓denA, Sa, Sb, Sc, Se, O1.d, O2.d, O3.d, cmI, arI, envOf, putN, ↓reduceIte, Nat.reduceLT, Nat.reduceSub, Nat.reduceAdd, Int.reduceAdd, Int.reduceEq, Int.reduceLT, Int.reduceLE, arr_pos, arr_neg, C_impl_eval (r.2.2.getD i []) st s.1.length (by omega) hb (by omega)]
  exact upR_next.symm
 rintro o rfl
 simp (contextual := true) (maxSteps := 1000000) (disch := omega) only [↓Sd, ↓So, ↓Sk, ↓den, ↓denA, Sa, Sb, Sc, Se, O1.d, O2.d, O3.d, cmI, arI, envOf, putN, ↓reduceIte, Nat.reduceLT, Nat.reduceSub, Nat.reduceAdd, Int.reduceAdd, Int.reduceEq, Int.reduceLT, Int.reduceLE, arr_pos, arr_neg, C_impl_inRange s (upR r st r.2.1.length) g1 (by rw [upR_len]; omega)]
 rw [← hK, useM, if_neg g]
 refine ⟨fun h => by rw [if_neg h]; simp, fun h => ?_⟩
 rw [if_pos h]
 have h1 : (upR r st r.2.1.length).length = st.length := upR_len
 refine ⟨rfl, ?_⟩
 rw [eq_comm, decide_eq_true]
 intro h2
 rw [h2] at h1
 simp at h1
 omega
def cmpL : List Int → List Int → Int
 | [], [] => 0
 | [], _ :: _ => -1
 | _ :: _, [] => 1
 | a :: l, b :: m => if a < b then -1 else if a > b then 1 else cmpL l m
def putM (x : List Int) : List (List Int) → List (List Int)
 | [] => [x]
 | y :: l => if y = x then y :: l else if cmpL x y < 0 then x :: y :: l else y :: putM x l
def nxtN (s : Sy) (st : List Int) : Nat → List (List Int)
 | 0 => []
 | k + 1 => if useM s.1 (s.2.getD k ([], [], [])) st = [] then nxtN s st k else putM (useM s.1 (s.2.getD k ([], [], [])) st) (nxtN s st k)
def nxt (s : Sy) (st : List Int) : List (List Int) := nxtN s st s.2.length
def fst0 (l : List Vr) : List Int := l.map (·.2.2)
def numN (l : List Vr) (st : List Int) : Nat → Int
 | 0 => 0
 | i + 1 => numN l st i * wd (l.getD i (0, 0, 0)) + st.getD i 0 - (l.getD i (0, 0, 0)).1
def num (l : List Vr) (st : List Int) : Int := numN l st l.length
def dg : List Vr → Int → Int × List Int
 | [], n => (n, [])
 | v :: l, n => ((dg l n).1 / wd v, (v.1 + (dg l n).1 % wd v) :: (dg l n).2)
def stAt (l : List Vr) (n : Int) : List Int := (dg l n).2
theorem dg_len : ∀ {l : List Vr} {n : Int}, (dg l n).2.length = l.length
 | [], n => rfl
 | v :: l, n => by simp [dg, dg_len]
theorem dg_bd {l : List Vr} {n : Int} (hv : ∀ v ∈ l, vOk v) (hn : 0 ≤ n ∧ n ≤ 3200000) : 0 ≤ (dg l n).1 ∧ (dg l n).1 ≤ 3200000 := by
 induction l with
 | nil => exact hn
 | cons v l ih =>
  have h := ih fun v hv' => hv v (List.mem_cons_of_mem _ hv')
  have h1 := wd_ok (hv v (List.mem_cons_self ..))
  simp only [dg]
  exact ⟨Int.ediv_nonneg h.1 (by omega), Int.le_trans (Int.ediv_le_self _ h.1) h.2⟩
theorem stAt_in {l : List Vr} {n : Int} (hv : ∀ v ∈ l, vOk v) (hn : 0 ≤ n ∧ n ≤ 3200000) : inR l (stAt l n) := by
 induction l with
 | nil => exact ⟨rfl, fun i hi => absurd hi (Nat.not_lt_zero _)⟩
 | cons v l ih =>
  have h := ih fun v hv' => hv v (List.mem_cons_of_mem _ hv')
  have h1 := hv v (List.mem_cons_self ..)
  have h2 := wd_ok h1
  refine ⟨by simp [stAt, dg_len], fun i hi => ?_⟩
  cases i with
  | succ i => exact h.2 i (by simpa using hi)
  | zero =>
   have a1 := Int.emod_nonneg (dg l n).1 (show wd v ≠ 0 by omega)
   have a2 := Int.emod_lt_of_pos (dg l n).1 (show 0 < wd v by omega)
   have a3 : wd v = v.2.1 - v.1 + 1 := rfl
   simp only [stAt, dg, List.getD_cons_zero]
   omega
theorem set_down {pre D : List Int} {k : Nat} {x : Int} (h : k < pre.length) : (pre.take (k + 1) ++ D).set k x = pre.take k ++ x :: D := by
 rw [← take_next (d := 0) h, List.append_assoc, List.set_append_right _ _ (by rw [List.length_take]; omega)]
 have : k - (pre.take k).length = 0 := by rw [List.length_take]; omega
 rw [this]; rfl
theorem dg_next {l : List Vr} {n : Int} {k : Nat} (h : k < l.length) : dg (l.drop k) n = ((dg (l.drop (k + 1)) n).1 / wd (l.getD k (0, 0, 0)), ((l.getD k (0, 0, 0)).1 + (dg (l.drop (k + 1)) n).1 % wd (l.getD k (0, 0, 0))) :: (dg (l.drop (k + 1)) n).2) := by
 rw [drop_cons (d := (0, 0, 0)) h]; rfl
theorem C_impl_stateAt (s : Sy) (n : Int) (h5 : s.1.length ≤ 5) (hv : ∀ v ∈ s.1, vOk v) (hn : 0 ≤ n ∧ n ≤ 3200000) (Q : List AV → Prop) : mc.C f_impl_stateAt [⟨L V3, s.1⟩, ⟨L TR, s.2⟩, ⟨I, n⟩] Q = Q [⟨L I, stAt s.1 n⟩] := by
 refine Mc.Ends.c (mc.ends F_impl_stateAt ?_)
 simp (contextual := true) (maxSteps := 1000000) (disch := omega) only [↓Sd, ↓So, ↓Sk, ↓den, ↓denA, Sa, Sb, Sc, Se, O1.d, O2.d, O3.d, cmI, arI, envOf, putN, ↓reduceIte, Nat.reduceLT, Nat.reduceSub, Nat.reduceAdd, Int.reduceAdd, Int.reduceEq, Int.reduceLT, Int.reduceLE, arr_pos, arr_neg, tr_impl_stateAt, List.length_replicate]
 refine mc.lp_down (Int × List Int) (fun k x => [⟨I, x.1⟩, ⟨I, (k : Int) - 1⟩, ⟨L V3, s.1⟩, ⟨L TR, s.2⟩, ⟨L I, x.2⟩]) (fun k x => k ≤ s.1.length ∧ x.1 = (dg (s.1.drop k) n).1 ∧ x.2 = (List.replicate s.1.length (0 : Int)).take k ++ (dg (s.1.drop k) n).2) s.1.length (n, List.replicate s.1.length 0) _ rfl ⟨Nat.le_refl _, by simp [dg], by simp [dg]⟩ ?_ ?_
 ·rintro k ⟨m, o⟩ ⟨hk, rfl, rfl⟩
  have hv' : ∀ k, ∀ v ∈ s.1.drop k, vOk v := fun k v hv1 => hv v (List.mem_of_mem_drop hv1)
  have h1 := dg_bd (hv' (k + 1)) hn
  have h2 := dg_bd (hv' k) hn
  have h3 := hv _ (getD_mem (d := (0, 0, 0)) (show k < s.1.length by omega))
  have h4 := wd_ok h3
  have h6 := Int.emod_nonneg (dg (s.1.drop (k + 1)) n).1 (show wd (s.1.getD k (0, 0, 0)) ≠ 0 by omega)
  have h7 := Int.emod_lt_of_pos (dg (s.1.drop (k + 1)) n).1 (show 0 < wd (s.1.getD k (0, 0, 0)) by omega)
  have hlen : ((List.replicate s.1.length (0 : Int)).take (k + 1) ++ (dg (s.1.drop (k + 1)) n).2).length = s.1.length := by simp [dg_len]; omega
  have hset : ∀ x : Int, ((List.replicate s.1.length (0 : Int)).take (k + 1) ++ (dg (s.1.drop (k + 1)) n).2).set k x = (List.replicate s.1.length (0 : Int)).take k ++ x :: (dg (s.1.drop (k + 1)) n).2 := fun x => set_down (by rw [List.length_replicate]; omega)
  have e := dg_next (l := s.1) (n := n) (k := k) (by omega)
  rw [e] at h2 ⊢
  clear e
  generalize dg (s.1.drop (k + 1)) n = D at *
  generalize (List.replicate s.1.length (0 : Int)).take (k + 1) ++ D.2 = O at *
  generalize (List.replicate s.1.length (0 : Int)).take k = P at *
  simp only [wd] at h2 h4 h6 h7 ⊢
  unfold vOk at h3
  simp (contextual := true) (maxSteps := 1000000) (disch := omega) only [↓Sd, ↓So, ↓Sk, ↓den, ↓denA, Sa, Sb, Sc, Se, O1.d, O2.d, O3.d, cmI, arI, envOf, putN, ↓reduceIte, Nat.reduceLT, Nat.reduceSub, Nat.reduceAdd, Int.reduceAdd, Int.reduceEq, Int.reduceLT, Int.reduceLE, arr_pos, arr_neg, hset]
  exact ⟨(_, _), ⟨rfl, rfl⟩, by omega, rfl, rfl⟩
 ·rintro ⟨m, o⟩ ⟨hk, rfl, rfl⟩
  simp (contextual := true) (maxSteps := 1000000) (disch := omega) only [↓Sd, ↓So, ↓Sk, ↓den, ↓denA, Sa, Sb, Sc, Se, O1.d, O2.d, O3.d, cmI, arI, envOf, putN, ↓reduceIte, Nat.reduceLT, Nat.reduceSub, Nat.reduceAdd, Int.reduceAdd, Int.reduceEq, Int.reduceLT, Int.reduceLE, arr_pos, arr_neg, List.take_zero, List.nil_append, List.drop_zero]
  rfl
def tab {α : Type} (f : Nat → α) (n : Nat) : List α := (List.range n).map f
theorem tab_len {α : Type} {f : Nat → α} {n : Nat} : (tab f n).length = n := by simp [tab]
theorem tab_next {α : Type} {f : Nat → α} {n : Nat} : tab f n ++ [f n] = tab f (n + 1) := by simp [tab, List.range_succ]
theorem tab_get {α : Type} {f : Nat → α} {n i : Nat} {d : α} (h : i < n) : (tab f n).getD i d = f i := by simp [tab, h]
def szn (l : List Vr) : Nat := (sz l).toNat
theorem szn_eq {s : Sy} (h : valid s) : ((szn s.1 : Nat) : Int) = sz s.1 ∧ 1 ≤ szn s.1 ∧ szn s.1 ≤ 400 := by
 have h1 := sz_pos s.1 h.2.2.1 s.1.length (Nat.le_refl _)
 rw [List.take_length] at h1
 have h2 := h.2.2.2.2
 unfold szn
 omega
def stN (s : Sy) (n : Nat) : List Int := stAt s.1 n
theorem stN_in {s : Sy} (h : valid s) {n : Nat} (hn : n < szn s.1) : inR s.1 (stN s n) := stAt_in h.2.2.1 (by have := szn_eq h; omega)
def stepR (s : Sy) (n : Nat) : List Int := (nxt s (stN s n)).map (num s.1)
def steps (s : Sy) : List (List Int) := tab (stepR s) (szn s.1)
def holdsN (s : Sy) (l : List Tm) (n : Nat) : Bool := evl l (stN s n) == 1
def upTo (p : Nat → Bool) : Nat → List Int
 | 0 => []
 | n + 1 => if p n = true then upTo p n ++ [(n : Int)] else upTo p n
theorem upTo_s {p : Nat → Bool} {n : Nat} (h : p n = true) : upTo p (n + 1) = upTo p n ++ [(n : Int)] := by rw [upTo, if_pos h]
theorem upTo_n {p : Nat → Bool} {n : Nat} (h : ¬ p n = true) : upTo p (n + 1) = upTo p n := by rw [upTo, if_neg h]
theorem upTo_len {p : Nat → Bool} : ∀ {n : Nat}, (upTo p n).length ≤ n
 | 0 => Nat.le_refl _
 | n + 1 => by
  have := @upTo_len p n
  simp only [upTo]
  split
  ·simp; omega
  ·omega
theorem upTo_mem {p : Nat → Bool} {x : Int} : ∀ {n : Nat}, x ∈ upTo p n ↔ ∃ k, k < n ∧ x = (k : Int) ∧ p k = true
 | 0 => by simp [upTo]
 | n + 1 => by
  have ih := @upTo_mem p x n
  simp only [upTo]
  constructor
  ·intro h
   split at h
   ·rename_i hp
    rcases List.mem_append.1 h with h | h
    ·obtain ⟨k, h1, h2⟩ := ih.1 h; exact ⟨k, by omega, h2⟩
    ·exact ⟨n, by omega, by simpa using h, hp⟩
   ·obtain ⟨k, h1, h2⟩ := ih.1 h; exact ⟨k, by omega, h2⟩
  ·rintro ⟨k, h1, h2, h3⟩
   rcases Nat.lt_succ_iff_lt_or_eq.1 h1 with h4 | rfl
   ·have h5 := ih.2 ⟨k, h4, h2, h3⟩
    split
    ·exact List.mem_append_left _ h5
    ·exact h5
   ·rw [if_pos h3, h2]; simp
noncomputable def dB (p : Prop) : Bool := @decide p (Classical.propDecidable p)
theorem dB_iff {p : Prop} : dB p = true ↔ p := @decide_eq_true_iff p (Classical.propDecidable p)
theorem dB_t {p : Prop} (h : p) : dB p = true := dB_iff.2 h
theorem dB_f {p : Prop} (h : ¬ p) : dB p = false := by cases h1 : dB p with | false => rfl | true => exact absurd (dB_iff.1 h1) h
theorem dB_congr {p q : Prop} (h : p ↔ q) : dB p = dB q := by rw [propext h]
theorem dB_eq {p : Prop} [Decidable p] : dB p = decide p := by by_cases h : p <;> simp [h, dB]
theorem tab_congr {α : Type} {f g : Nat → α} {n : Nat} (h : ∀ k, k < n → f k = g k) : tab f n = tab g n := by
 unfold tab
 exact List.map_congr_left fun k hk => h k (List.mem_range.1 hk)
theorem tab_set' {α : Type} {f : Nat → α} {n j : Nat} {x : α} : (tab f n).set j x = tab (fun k => if k = j then x else f k) n := by
 apply List.ext_getElem
 ·simp [tab]
 ·intro i h1 h2
  simp only [tab, List.length_set, List.length_map, List.length_range] at h1 h2
  rw [List.getElem_set]
  simp only [tab, List.getElem_map, List.getElem_range]
  by_cases h : j = i
  ·rw [if_pos h, if_pos h.symm]
  ·rw [if_neg h, if_neg (fun e => h e.symm)]
theorem rep_tab {α : Type} {z : α} {n : Nat} : List.replicate n z = tab (fun _ => z) n := by
 apply List.ext_getElem <;> simp [tab]
def lset (l : List Int) (n : Int) : Prop := ∀ i, i < l.length → (0 ≤ l.getD i 0 ∧ l.getD i 0 ≤ n - 1) ∧ (0 < i → l.getD (i - 1) 0 < l.getD i 0)
instance (l : List Int) (n : Int) : Decidable (lset l n) := by unfold lset; infer_instance
theorem lset_ge {l : List Int} {n : Int} (h : lset l n) : ∀ i, i < l.length → (i : Int) ≤ l.getD i 0 := by
 intro i
 induction i with
 | zero => intro hi; exact (h 0 hi).1.1
 | succ i ih =>
  intro hi
  have h1 := ih (by omega)
  have h2 := (h (i + 1) hi).2 (by omega)
  simp only [Nat.add_sub_cancel] at h2
  omega
theorem lset_len {l : List Int} {n : Int} (h : lset l n) (hn : 0 ≤ n) : (l.length : Int) ≤ n := by
 rcases Nat.eq_zero_or_pos l.length with h0 | h0
 ·omega
 ·have h1 := lset_ge h (l.length - 1) (by omega)
  have h2 := (h (l.length - 1) (by omega)).1.2
  omega
def behind (T : List (List Int)) (p : Nat → Bool) (n : Nat) (k : Nat) : Prop := ∃ a, a < n ∧ p a = true ∧ (k : Int) ∈ T.getD a []
theorem upTo_mono {p q : Nat → Bool} : ∀ {n : Nat}, (∀ k, k < n → p k = true → q k = true) → (upTo p n).length ≤ (upTo q n).length ∧ ((upTo q n).length ≤ (upTo p n).length → ∀ k, k < n → q k = true → p k = true)
 | 0, _ => ⟨Nat.le_refl _, fun _ k hk => absurd hk (Nat.not_lt_zero _)⟩
 | n + 1, h => by
  obtain ⟨h1, h2⟩ := upTo_mono (n := n) fun k hk => h k (by omega)
  by_cases hp : p n = true
  ·have hq := h n (by omega) hp
   rw [upTo_s hp, upTo_s hq]
   simp only [List.length_append, List.length_cons, List.length_nil]
   refine ⟨by omega, fun h3 k hk hqk => ?_⟩
   rcases Nat.lt_succ_iff_lt_or_eq.1 hk with h4 | rfl
   ·exact h2 (by omega) k h4 hqk
   ·exact hp
  ·rw [upTo_n hp]
   by_cases hq : q n = true
   ·rw [upTo_s hq]
    simp only [List.length_append, List.length_cons, List.length_nil]
    exact ⟨by omega, fun h3 => absurd h3 (by omega)⟩
   ·rw [upTo_n hq]
    refine ⟨h1, fun h3 k hk hqk => ?_⟩
    rcases Nat.lt_succ_iff_lt_or_eq.1 hk with h4 | rfl
    ·exact h2 h3 k h4 hqk
    ·exact absurd hqk hq
inductive Rch (T : List (List Int)) (F : List Int) : Nat → Prop
 | base {k : Nat} : (k : Int) ∈ F → Rch T F k
 | step {a k : Nat} : Rch T F a → (k : Int) ∈ T.getD a [] → Rch T F k
def Tbl (T : List (List Int)) (n : Nat) : Prop := T.length = n ∧ ∀ r ∈ T, r.length ≤ 1048576 ∧ ∀ x ∈ r, 0 ≤ x ∧ x < n
theorem Tbl.row {T : List (List Int)} {n i : Nat} (h : Tbl T n) : ∀ x ∈ T.getD i [], 0 ≤ x ∧ x < n := by
 intro x hx
 by_cases hi : i < T.length
 ·exact (h.2 _ (getD_mem hi)).2 x hx
 ·rw [List.getD_eq_getElem?_getD, List.getElem?_eq_none (by omega)] at hx
  cases hx
def cntF (p : Nat → Bool) (n : Nat) : Nat := (upTo (fun k => !p k) n).length
def setV (s : Sy) (l : List Int) : Prop := valid s ∧ lset l (sz s.1)
instance (s : Sy) (l : List Int) : Decidable (setV s l) := by unfold setV; infer_instance
theorem setV.n {s : Sy} {l : List Int} (h : setV s l) : lset l (szn s.1) := by rw [(szn_eq h.1).1]; exact h.2
theorem setV.len {s : Sy} {l : List Int} (h : setV s l) : l.length ≤ 400 := by
 have h1 := lset_len h.n (by omega)
 have h2 := szn_eq h.1
 omega
def ahead (T : List (List Int)) (p : Nat → Bool) (n : Nat) (k : Nat) : Prop := ∃ b, b < n ∧ p b = true ∧ (b : Int) ∈ T.getD k []
theorem C_spec_l2Has (l : List Int) (x : Int) (hl : l.length ≤ 1048576) (Q : List AV → Prop) : mc.C f_spec_l2Has [⟨L I, l⟩, ⟨I, x⟩] Q = Q [⟨B, dB (x ∈ l)⟩] := by
 refine Mc.Ends.c (mc.ends F_spec_l2Has ?_)
 generalize hK : dB (x ∈ l) = K
 simp (contextual := true) (maxSteps := 1000000) (disch := omega) only [↓Sd, ↓So, ↓Sk, ↓den, ↓denA, Sa, Sb, Sc, Se, O1.d, O2.d, O3.d, cmI, arI, envOf, putN, ↓reduceIte, Nat.reduceLT, Nat.reduceSub, Nat.reduceAdd, Int.reduceAdd, Int.reduceEq, Int.reduceLT, Int.reduceLE, arr_pos, arr_neg, tr_spec_l2Has]
 refine lp_all (fun i => [⟨L I, l⟩, ⟨I, x⟩, ⟨I, (i : Int)⟩]) (fun i => ¬ l.getD i 0 = x) l.length _ rfl ?_ ?_
 ·intro i hi
  simp (contextual := true) (maxSteps := 1000000) (disch := omega) only [↓Sd, ↓So, ↓Sk, ↓den, ↓denA, Sa, Sb, Sc, Se, O1.d, O2.d, O3.d, cmI, arI, envOf, putN, ↓reduceIte, Nat.reduceLT, Nat.reduceSub, Nat.reduceAdd, Int.reduceAdd, Int.reduceEq, Int.reduceLT, Int.reduceLE, arr_pos, arr_neg, ]
  intro h
  rw [← hK, dB_t]
  rw [← h]; exact getD_mem hi
 ·intro h
  simp (contextual := true) (maxSteps := 1000000) (disch := omega) only [↓Sd, ↓So, ↓Sk, ↓den, ↓denA, Sa, Sb, Sc, Se, O1.d, O2.d, O3.d, cmI, arI, envOf, putN, ↓reduceIte, Nat.reduceLT, Nat.reduceSub, Nat.reduceAdd, Int.reduceAdd, Int.reduceEq, Int.reduceLT, Int.reduceLE, arr_pos, arr_neg, ]
  rw [← hK, dB_f]
  intro hx
  obtain ⟨i, hi, rfl⟩ := List.getElem_of_mem hx
  exact h i hi (getD_lt hi)
theorem getD_set_ne {α : Type} {l : List α} {i j : Nat} {x d : α} (h : i ≠ j) : (l.set i x).getD j d = l.getD j d := by
 simp [List.getD_eq_getElem?_getD, List.getElem?_set, h]
def Same {α : Type} (l s : List α) (d : α) (i : Nat) : Prop := s.length = l.length ∧ ∀ j, i ≤ j → s.getD j d = l.getD j d
theorem Same.set {α : Type} {l s : List α} {d x : α} {i : Nat} (h : Same l s d i) : Same l (s.set i x) d (i + 1) :=
 ⟨by rw [List.length_set]; exact h.1, fun j hj => by rw [getD_set_ne (by omega)]; exact h.2 j (by omega)⟩
theorem iD {k : IntKind} {a b : Int} (h : a = b) : @Eq (Ty.int k).D a b := h
def vb (n w : Nat) : List Int := tab (fun i => ((n / 2 ^ (w - 1 - i) % 2 : Nat) : Int)) w
theorem upTo_pos {p : Nat → Bool} {n : Nat} : 0 < (upTo p n).length ↔ ∃ k, k < n ∧ p k = true := by
 constructor
 ·intro h
  obtain ⟨k, h1, _, h3⟩ := upTo_mem.1 (getD_mem (d := 0) h)
  exact ⟨k, h1, h3⟩
 ·rintro ⟨k, h1, h2⟩
  exact List.length_pos_of_mem (upTo_mem.2 ⟨k, h1, rfl, h2⟩)
structure Rnd (T : List (List Int)) (p : Nat → Bool) (n : Nat) (d a0 C : Nat) (ag : Bool) (f : Nat → Int) : Prop where
 ge : ∀ k, k < n → -1 ≤ f k
 zero : ∀ k, k < n → (f k = 0 ↔ p k = true)
 pre : ∀ k, k < n → 0 < f k → ∃ a, a < n ∧ f a + 1 = f k ∧ (k : Int) ∈ T.getD a []
 le : ∀ k, k < n → f k ≤ (d : Int) + 1
 closed : ∀ a, a < n → 0 ≤ f a → (f a < d ∨ f a = d ∧ a < a0) → ∀ k : Nat, (k : Int) ∈ T.getD a [] → 0 ≤ f k ∧ f k ≤ f a + 1
 none : ag = false → ∀ k, k < n → f k ≤ d
 cnt : cntF (fun k => decide (0 ≤ f k)) n ≤ C
 less : ag = true → cntF (fun k => decide (0 ≤ f k)) n < C
theorem Rnd.skip {T : List (List Int)} {p : Nat → Bool} {n d a0 C : Nat} {ag : Bool} {f : Nat → Int} (h : Rnd T p n d a0 C ag f) (ht : Tbl T n) (hx : f a0 = d → ∀ k : Nat, (k : Int) ∈ T.getD a0 [] → 0 ≤ f k) : Rnd T p n d (a0 + 1) C ag f := by
 refine ⟨h.ge, h.zero, h.pre, h.le, fun a h1 h2 h3 k hk => ?_, h.none, h.cnt, h.less⟩
 by_cases e : a = a0
 ·subst e
  rcases h3 with h3 | h3
  ·exact h.closed a h1 h2 (.inl h3) k hk
  ·have h4 := ht.row _ hk
   have h5 := h.le k (by omega)
   exact ⟨hx h3.1 k hk, by omega⟩
 ·refine h.closed a h1 h2 (h3.imp_right fun h4 => ⟨h4.1, ?_⟩) k hk
  omega
theorem Rch.trans {T : List (List Int)} {a b c : Nat} (h : Rch T [(a : Int)] b) (h2 : Rch T [(b : Int)] c) : Rch T [(a : Int)] c := by
 induction h2 with
 | base h3 => simp only [List.mem_singleton] at h3; have h3 := Int.ofNat_inj.1 h3; subst h3; exact h
 | step _ h3 ih => exact .step ih h3
abbrev RD : Ty := P (L U) I
def Byt (b : List Int) : Prop := ∀ x ∈ b, 0 ≤ x ∧ x ≤ 255
def Rdy (b : List Int) : Prop := Byt b ∧ b.length ≤ 2000
theorem Byt.get {b : List Int} (h : Byt b) (i : Nat) : 0 ≤ b.getD i 0 ∧ b.getD i 0 ≤ 255 := by
 by_cases hi : i < b.length
 ·exact h _ (getD_mem hi)
 ·rw [List.getD_eq_getElem?_getD, List.getElem?_eq_none (by omega)]; simp
theorem xor_bd {x y : Int} (hx : 0 ≤ x ∧ x < 1099511627776) (hy : 0 ≤ y ∧ y < 1099511627776) : 0 ≤ IntKind.i64.wrap ((BitVec.ofInt IntKind.i64.bits x ^^^ BitVec.ofInt IntKind.i64.bits y).toNat : Int) := by
 have e : ∀ z : Int, 0 ≤ z ∧ z < 1099511627776 → (BitVec.ofInt IntKind.i64.bits z).toNat < 2 ^ 40 := by
  intro z hz
  rw [BitVec.toNat_ofInt]
  show Int.toNat (z % (2 : Int) ^ 64) < 2 ^ 40
  omega
 have h : (BitVec.ofInt IntKind.i64.bits x ^^^ BitVec.ofInt IntKind.i64.bits y).toNat < 2 ^ 40 := by
  rw [BitVec.toNat_xor]
  exact Nat.xor_lt_two_pow (e x hx) (e y hy)
 rw [wrap_id (by omega) (by omega)]
 omega
theorem D_pick (b : List Int) (p n : Int) (hb : Rdy b) (hp : 0 ≤ p ∧ p ≤ 1000000000) {Q : List AV → Prop} (h : ∀ v : Int, 0 ≤ v → (1 ≤ n → v < n) → Q [⟨I, v⟩, ⟨RD, (b, p + 1)⟩]) : mc.C f_spec_l40Rd_pick [⟨RD, (b, p)⟩, ⟨I, n⟩] Q := by
 refine mc.c_of F_spec_l40Rd_pick ?_
 have hl := hb.2
 simp (contextual := true) (maxSteps := 1000000) (disch := omega) only [↓Sd, ↓So, ↓Sk, ↓den, ↓denA, Sa, Sb, Sc, Se, O1.d, O2.d, O3.d, cmI, arI, envOf, putN, ↓reduceIte, Nat.reduceLT, Nat.reduceSub, Nat.reduceAdd, Int.reduceAdd, Int.reduceEq, Int.reduceLT, Int.reduceLE, arr_pos, arr_neg, tr_spec_l40Rd_pick]
 refine ⟨fun g => h 0 (by omega) (by omega), fun g => ⟨fun g2 => h 0 (by omega) (by omega), fun g2 => ?_⟩⟩
 have hn : 1 ≤ n := by omega
 have hlb : 0 < (b.length : Int) := by omega
 refine ⟨fun g3 => ?_, fun g3 => ?_⟩
 ·have h1 := hb.1.get p.toNat
  rw [wrap_id (by omega) (by omega), Int.tmod_eq_emod_of_nonneg h1.1]
  exact h _ (Int.emod_nonneg _ (by omega)) fun _ => Int.emod_lt_of_pos _ (by omega)
 ·have a1 := Int.emod_nonneg p (show (b.length : Int) ≠ 0 by omega)
  have a2 := Int.emod_lt_of_pos p hlb
  have a3 := Int.emod_nonneg (p * 7 + 3) (show (b.length : Int) ≠ 0 by omega)
  have a4 := Int.emod_lt_of_pos (p * 7 + 3) hlb
  have a5 := Int.ediv_nonneg hp.1 (Int.le_of_lt hlb)
  have a6 := Int.ediv_le_self (b.length : Int) hp.1
  have h1 := hb.1.get (p % (b.length : Int)).toNat
  have h2 := hb.1.get ((p * 7 + 3) % (b.length : Int)).toNat
  refine ⟨a1, a2, a3, a4, ?_⟩
  generalize b.getD (p % (b.length : Int)).toNat 0 = x1 at *
  generalize b.getD ((p * 7 + 3) % (b.length : Int)).toNat 0 = x2 at *
  generalize p / (b.length : Int) = x3 at *
  rw [wrap_id (x := x1) (by omega) (by omega), wrap_id (x := x2) (by omega) (by omega), wrap_id (x := x3) (by omega) (by omega), wrap_id (x := x1 * 131) (by omega) (by omega), wrap_id (x := x2 * 1117) (by omega) (by omega), wrap_id (x := x1 * 131 + x2 * 1117) (by omega) (by omega), wrap_id (x := x1 * 131 + x2 * 1117 + p * 29) (by omega) (by omega), wrap_id (x := x3 * 53) (by omega) (by omega), wrap_id (x := x1 * 131 + x2 * 1117 + p * 29 + x3 * 53) (by omega) (by omega)]
  obtain ⟨y, hy⟩ : ∃ y, x1 * 131 + x2 * 1117 + p * 29 + x3 * 53 = y := ⟨_, rfl⟩
  have hyb : 0 ≤ y ∧ y < 1099511627776 := by omega
  rw [hy, Int.tdiv_eq_ediv_of_nonneg hyb.1, wrap_id (x := y / 64) (by omega) (by omega)]
  have h4 := xor_bd hyb (y := y / 64) (by omega)
  rw [Int.tmod_eq_emod_of_nonneg h4]
  exact h _ (Int.emod_nonneg _ (by omega)) fun _ => Int.emod_lt_of_pos _ (by omega)
theorem D_pick1 (b : List Int) (p n : Int) (hb : Rdy b) (hp : 0 ≤ p ∧ p ≤ 1000000000) (hn : 1 ≤ n) {Q : List AV → Prop} (h : ∀ v : Int, 0 ≤ v → v < n → Q [⟨I, v⟩, ⟨RD, (b, p + 1)⟩]) : mc.C f_spec_l40Rd_pick [⟨RD, (b, p)⟩, ⟨I, n⟩] Q := D_pick b p n hb hp fun v h0 h1 => h v h0 (h1 hn)
theorem D_num (b : List Int) (p : Int) (l : List Int) (hb : Rdy b) (hp : 0 ≤ p ∧ p ≤ 1000000000) (hl : l ≠ []) (hl2 : l.length ≤ 1048576) {Q : List AV → Prop} (h : ∀ v : Int, v ∈ l → Q [⟨I, v⟩, ⟨RD, (b, p + 1)⟩]) : mc.C f_spec_l40Rd_num [⟨RD, (b, p)⟩, ⟨L I, l⟩] Q := by
 have hl1 : 0 < l.length := List.length_pos_iff.2 hl
 refine mc.c_of F_spec_l40Rd_num ?_
 simp (contextual := true) (maxSteps := 1000000) (disch := omega) only [↓Sd, ↓So, ↓Sk, ↓den, ↓denA, Sa, Sb, Sc, Se, O1.d, O2.d, O3.d, cmI, arI, envOf, putN, ↓reduceIte, Nat.reduceLT, Nat.reduceSub, Nat.reduceAdd, Int.reduceAdd, Int.reduceEq, Int.reduceLT, Int.reduceLE, arr_pos, arr_neg, tr_spec_l40Rd_num]
 refine D_pick1 b p _ hb hp (by omega) fun v h0 h1 => ?_
 simp (contextual := true) (maxSteps := 1000000) (disch := omega) only [↓Sd, ↓So, ↓Sk, ↓den, ↓denA, Sa, Sb, Sc, Se, O1.d, O2.d, O3.d, cmI, arI, envOf, putN, ↓reduceIte, Nat.reduceLT, Nat.reduceSub, Nat.reduceAdd, Int.reduceAdd, Int.reduceEq, Int.reduceLT, Int.reduceLE, arr_pos, arr_neg, ]
 exact h _ (getD_mem (by omega))
theorem D_open (b : List Int) (hb : Byt b) (hl : Lt63 b) {Q : List AV → Prop} (h : ∀ b', Rdy b' → Q [⟨RD, (b', 0)⟩]) : mc.C f_spec_l40Open [⟨L U, b⟩] Q := by
 unfold Lt63 at hl
 refine mc.c_of F_spec_l40Open ?_
 simp (contextual := true) (maxSteps := 1000000) (disch := omega) only [↓Sd, ↓So, ↓Sk, ↓den, ↓denA, Sa, Sb, Sc, Se, O1.d, O2.d, O3.d, cmI, arI, envOf, putN, ↓reduceIte, Nat.reduceLT, Nat.reduceSub, Nat.reduceAdd, Int.reduceAdd, Int.reduceEq, Int.reduceLT, Int.reduceLE, arr_pos, arr_neg, ↓wpJoin, tr_spec_l40Open]
 refine ⟨fun g => ?_, fun g => h b ⟨hb, by omega⟩⟩
 refine h _ ⟨fun x hx => hb x ?_, ?_⟩
 ·exact List.mem_of_mem_take hx
 ·rw [List.length_take]; omega
theorem D_l1Number (b : List Int) (p : Int) (hb : Rdy b) (hp : 0 ≤ p ∧ p ≤ 900000000) {Q : List AV → Prop} (h : ∀ v p' : Int, p ≤ p' ∧ p' ≤ p + 6 → Q [⟨I, v⟩, ⟨RD, (b, p')⟩]) : mc.C f_spec_l1Number [⟨RD, (b, p)⟩] Q := by
 refine mc.c_of F_spec_l1Number ?_
 simp (contextual := true) (maxSteps := 1000000) (disch := omega) only [↓Sd, ↓So, ↓Sk, ↓den, ↓denA, Sa, Sb, Sc, Se, O1.d, O2.d, O3.d, cmI, arI, envOf, putN, ↓reduceIte, Nat.reduceLT, Nat.reduceSub, Nat.reduceAdd, Int.reduceAdd, Int.reduceEq, Int.reduceLT, Int.reduceLE, arr_pos, arr_neg, tr_spec_l1Number]
 refine D_pick1 _ _ _ hb (by omega) (by omega) fun v1 v10 v11 => ?_; simp (contextual := true) (maxSteps := 1000000) (disch := omega) only [↓Sd, ↓So, ↓Sk, ↓den, ↓denA, Sa, Sb, Sc, Se, O1.d, O2.d, O3.d, cmI, arI, envOf, putN, ↓reduceIte, Nat.reduceLT, Nat.reduceSub, Nat.reduceAdd, Int.reduceAdd, Int.reduceEq, Int.reduceLT, Int.reduceLE, arr_pos, arr_neg, ]
 refine D_pick1 _ _ _ hb (by omega) (by omega) fun v2 v20 v21 => ?_; simp (contextual := true) (maxSteps := 1000000) (disch := omega) only [↓Sd, ↓So, ↓Sk, ↓den, ↓denA, Sa, Sb, Sc, Se, O1.d, O2.d, O3.d, cmI, arI, envOf, putN, ↓reduceIte, Nat.reduceLT, Nat.reduceSub, Nat.reduceAdd, Int.reduceAdd, Int.reduceEq, Int.reduceLT, Int.reduceLE, arr_pos, arr_neg, ]
 refine D_pick1 _ _ _ hb (by omega) (by omega) fun v3 v30 v31 => ?_; simp (contextual := true) (maxSteps := 1000000) (disch := omega) only [↓Sd, ↓So, ↓Sk, ↓den, ↓denA, Sa, Sb, Sc, Se, O1.d, O2.d, O3.d, cmI, arI, envOf, putN, ↓reduceIte, Nat.reduceLT, Nat.reduceSub, Nat.reduceAdd, Int.reduceAdd, Int.reduceEq, Int.reduceLT, Int.reduceLE, arr_pos, arr_neg, ]
 refine D_pick1 _ _ _ hb (by omega) (by omega) fun v4 v40 v41 => ?_; simp (contextual := true) (maxSteps := 1000000) (disch := omega) only [↓Sd, ↓So, ↓Sk, ↓den, ↓denA, Sa, Sb, Sc, Se, O1.d, O2.d, O3.d, cmI, arI, envOf, putN, ↓reduceIte, Nat.reduceLT, Nat.reduceSub, Nat.reduceAdd, Int.reduceAdd, Int.reduceEq, Int.reduceLT, Int.reduceLE, arr_pos, arr_neg, ]
 refine D_pick1 _ _ _ hb (by omega) (by omega) fun v5 v50 v51 => ?_; simp (contextual := true) (maxSteps := 1000000) (disch := omega) only [↓Sd, ↓So, ↓Sk, ↓den, ↓denA, Sa, Sb, Sc, Se, O1.d, O2.d, O3.d, cmI, arI, envOf, putN, ↓reduceIte, Nat.reduceLT, Nat.reduceSub, Nat.reduceAdd, Int.reduceAdd, Int.reduceEq, Int.reduceLT, Int.reduceLE, arr_pos, arr_neg, ]
 refine D_num _ _ _ hb (by omega) (by simp) (by simp) fun v v0 => ?_; simp (contextual := true) (maxSteps := 1000000) (disch := omega) only [↓Sd, ↓So, ↓Sk, ↓den, ↓denA, Sa, Sb, Sc, Se, O1.d, O2.d, O3.d, cmI, arI, envOf, putN, ↓reduceIte, Nat.reduceLT, Nat.reduceSub, Nat.reduceAdd, Int.reduceAdd, Int.reduceEq, Int.reduceLT, Int.reduceLE, arr_pos, arr_neg, ]
 exact h v _ (by omega)
end Go.Proofs.YtlfinllnfggiiaaGreat
namespace Go.Proofs.YtlfinllnfggiiaaGreat
open Go Go.Sm Go.Sm.Q
set_option linter.unusedSimpArgs false
set_option linter.unusedVariables false
theorem D_l1Pick (b : List Int) (p : Int) (ks : List Int) (kind : Int) (hb : Rdy b) (hp : 0 ≤ p ∧ p ≤ 900000000) (hk : 0 < ks.length) (hk2 : ks.length ≤ 1000) {Q : List AV → Prop} (h : ∀ v : Int, -1 ≤ v ∧ v < ks.length → Q [⟨I, v⟩, ⟨RD, (b, p + 1)⟩]) : mc.C f_spec_l1Pick [⟨RD, (b, p)⟩, ⟨L I, ks⟩, ⟨I, kind⟩] Q := by
 refine mc.c_of F_spec_l1Pick ?_
 simp (contextual := true) (maxSteps := 1000000) (disch := omega) only [↓Sd, ↓So, ↓Sk, ↓den, ↓denA, Sa, Sb, Sc, Se, O1.d, O2.d, O3.d, cmI, arI, envOf, putN, ↓reduceIte, Nat.reduceLT, Nat.reduceSub, Nat.reduceAdd, Int.reduceAdd, Int.reduceEq, Int.reduceLT, Int.reduceLE, arr_pos, arr_neg, tr_spec_l1Pick]
 refine D_pick1 _ _ _ hb (by omega) (by omega) fun a a0 a1 => ?_; simp (contextual := true) (maxSteps := 1000000) (disch := omega) only [↓Sd, ↓So, ↓Sk, ↓den, ↓denA, Sa, Sb, Sc, Se, O1.d, O2.d, O3.d, cmI, arI, envOf, putN, ↓reduceIte, Nat.reduceLT, Nat.reduceSub, Nat.reduceAdd, Int.reduceAdd, Int.reduceEq, Int.reduceLT, Int.reduceLE, arr_pos, arr_neg, ]
 refine mc.lp_for Unit (fun i _ => [⟨L I, ks⟩, ⟨I, kind⟩, ⟨I, a⟩, ⟨I, (i : Int)⟩, ⟨L U, b⟩, ⟨I, p + 1⟩]) (fun _ _ => True) ks.length 0 () _ rfl (Nat.zero_le _) trivial ?_ ?_
 ·rintro i - hi -
  have a1 := Int.emod_nonneg (a + (i : Int)) (show (ks.length : Int) ≠ 0 by omega)
  have a2 := Int.emod_lt_of_pos (a + (i : Int)) (show 0 < (ks.length : Int) by omega)
  simp (contextual := true) (maxSteps := 1000000) (disch := omega) only [↓Sd, ↓So, ↓Sk, ↓den, ↓denA, Sa, Sb, Sc, Se, O1.d, O2.d, O3.d, cmI, arI, envOf, putN, ↓reduceIte, Nat.reduceLT, Nat.reduceSub, Nat.reduceAdd, Int.reduceAdd, Int.reduceEq, Int.reduceLT, Int.reduceLE, arr_pos, arr_neg, ]
  exact fun _ => h _ (by omega)
 ·rintro - -
  simp (contextual := true) (maxSteps := 1000000) (disch := omega) only [↓Sd, ↓So, ↓Sk, ↓den, ↓denA, Sa, Sb, Sc, Se, O1.d, O2.d, O3.d, cmI, arI, envOf, putN, ↓reduceIte, Nat.reduceLT, Nat.reduceSub, Nat.reduceAdd, Int.reduceAdd, Int.reduceEq, Int.reduceLT, Int.reduceLE, arr_pos, arr_neg, ]
  exact h _ (by omega)
theorem C_spec_l2VarOf (n : Int) (Q : List AV → Prop) : mc.C f_spec_l2VarOf [⟨I, n⟩] Q = Q [⟨I, 1⟩, ⟨I, n⟩, ⟨I, 0⟩, ⟨I, 0⟩] := Mc.Ends.c (mc.ends F_spec_l2VarOf (by simp (contextual := true) (maxSteps := 1000000) (disch := omega) only [↓Sd, ↓So, ↓Sk, ↓den, ↓denA, Sa, Sb, Sc, Se, O1.d, O2.d, O3.d, cmI, arI, envOf, putN, ↓reduceIte, Nat.reduceLT, Nat.reduceSub, Nat.reduceAdd, Int.reduceAdd, Int.reduceEq, Int.reduceLT, Int.reduceLE, arr_pos, arr_neg, tr_spec_l2VarOf]))
theorem C_spec_l2Const (n : Int) (Q : List AV → Prop) : mc.C f_spec_l2Const [⟨I, n⟩] Q = Q [⟨I, 0⟩, ⟨I, n⟩, ⟨I, 0⟩, ⟨I, 0⟩] := Mc.Ends.c (mc.ends F_spec_l2Const (by simp (contextual := true) (maxSteps := 1000000) (disch := omega) only [↓Sd, ↓So, ↓Sk, ↓den, ↓denA, Sa, Sb, Sc, Se, O1.d, O2.d, O3.d, cmI, arI, envOf, putN, ↓reduceIte, Nat.reduceLT, Nat.reduceSub, Nat.reduceAdd, Int.reduceAdd, Int.reduceEq, Int.reduceLT, Int.reduceLE, arr_pos, arr_neg, tr_spec_l2Const]))
theorem D_l2Cond (b : List Int) (p : Int) (v : Vr) (at_ : Int) (hb : Rdy b) (hp : 0 ≤ p ∧ p ≤ 900000000) {Q : List AV → Prop} (h : ∀ (l : List Tm) (p' : Int), p ≤ p' ∧ p' ≤ p + 3 → l.length ≤ 4 → Q [⟨L T4, l⟩, ⟨RD, (b, p')⟩]) : mc.C f_spec_l2Cond [⟨RD, (b, p)⟩, ⟨I, v.1⟩, ⟨I, v.2.1⟩, ⟨I, v.2.2⟩, ⟨I, at_⟩] Q := by
 refine mc.c_of F_spec_l2Cond ?_
 simp (contextual := true) (maxSteps := 1000000) (disch := omega) only [↓Sd, ↓So, ↓Sk, ↓den, ↓denA, Sa, Sb, Sc, Se, O1.d, O2.d, O3.d, cmI, arI, envOf, putN, ↓reduceIte, Nat.reduceLT, Nat.reduceSub, Nat.reduceAdd, Int.reduceAdd, Int.reduceEq, Int.reduceLT, Int.reduceLE, arr_pos, arr_neg, tr_spec_l2Cond]
 refine D_pick _ _ _ hb (by omega) fun n _ _ => ?_
 simp (contextual := true) (maxSteps := 1000000) (disch := omega) only [↓Sd, ↓So, ↓Sk, ↓den, ↓denA, Sa, Sb, Sc, Se, O1.d, O2.d, O3.d, cmI, arI, envOf, putN, ↓reduceIte, Nat.reduceLT, Nat.reduceSub, Nat.reduceAdd, Int.reduceAdd, Int.reduceEq, Int.reduceLT, Int.reduceLE, arr_pos, arr_neg, ↓wpJoin, ]
 refine D_num _ _ _ hb (by omega) (by simp) (by simp) fun o o0 => ?_; simp (contextual := true) (maxSteps := 1000000) (disch := omega) only [↓Sd, ↓So, ↓Sk, ↓den, ↓denA, Sa, Sb, Sc, Se, O1.d, O2.d, O3.d, cmI, arI, envOf, putN, ↓reduceIte, Nat.reduceLT, Nat.reduceSub, Nat.reduceAdd, Int.reduceAdd, Int.reduceEq, Int.reduceLT, Int.reduceLE, arr_pos, arr_neg, ]
 simp (contextual := true) (maxSteps := 1000000) (disch := omega) only [↓Sd, ↓So, ↓Sk, ↓den, ↓denA, Sa, Sb, Sc, Se, O1.d, O2.d, O3.d, cmI, arI, envOf, putN, ↓reduceIte, Nat.reduceLT, Nat.reduceSub, Nat.reduceAdd, Int.reduceAdd, Int.reduceEq, Int.reduceLT, Int.reduceLE, arr_pos, arr_neg, ↓wpJoin, C_spec_l2VarOf, C_spec_l2Const]
 refine D_pick1 _ _ _ hb (by omega) (by omega) fun k k0 k1 => ?_; simp (contextual := true) (maxSteps := 1000000) (disch := omega) only [↓Sd, ↓So, ↓Sk, ↓den, ↓denA, Sa, Sb, Sc, Se, O1.d, O2.d, O3.d, cmI, arI, envOf, putN, ↓reduceIte, Nat.reduceLT, Nat.reduceSub, Nat.reduceAdd, Int.reduceAdd, Int.reduceEq, Int.reduceLT, Int.reduceLE, arr_pos, arr_neg, ]
 exact ⟨fun _ => h _ _ (by omega) (by simp), fun _ => h _ _ (by omega) (by simp)⟩
def mvT (t : Tm) (n : Int) : Tm := if 2 ≤ t.1 then (t.1, 0, IntKind.i64.wrap (t.2.2.1 + n), IntKind.i64.wrap (t.2.2.2 + n)) else t
theorem C_spec_l1Moved (t : Tm) (n : Int) (Q : List AV → Prop) : mc.C f_spec_l1Moved [⟨I, t.1⟩, ⟨I, t.2.1⟩, ⟨I, t.2.2.1⟩, ⟨I, t.2.2.2⟩, ⟨I, n⟩] Q = Q [⟨I, (mvT t n).1⟩, ⟨I, (mvT t n).2.1⟩, ⟨I, (mvT t n).2.2.1⟩, ⟨I, (mvT t n).2.2.2⟩] := by
 refine Mc.Ends.c (mc.ends F_spec_l1Moved ?_)
 unfold mvT
 by_cases g : 2 ≤ t.1
 ·rw [if_pos g]
  simp (contextual := true) (maxSteps := 1000000) (disch := omega) only [↓Sd, ↓So, ↓Sk, ↓den, ↓denA, Sa, Sb, Sc, Se, O1.d, O2.d, O3.d, cmI, arI, envOf, putN, ↓reduceIte, Nat.reduceLT, Nat.reduceSub, Nat.reduceAdd, Int.reduceAdd, Int.reduceEq, Int.reduceLT, Int.reduceLE, arr_pos, arr_neg, tr_spec_l1Moved]
 ·rw [if_neg g]
  simp (contextual := true) (maxSteps := 1000000) (disch := omega) only [↓Sd, ↓So, ↓Sk, ↓den, ↓denA, Sa, Sb, Sc, Se, O1.d, O2.d, O3.d, cmI, arI, envOf, putN, ↓reduceIte, Nat.reduceLT, Nat.reduceSub, Nat.reduceAdd, Int.reduceAdd, Int.reduceEq, Int.reduceLT, Int.reduceLE, arr_pos, arr_neg, tr_spec_l1Moved]
theorem C_spec_TermsValid (l : List Tm) (vars : Int) (hl : Few l) (Q : List AV → Prop) : mc.C f_spec_TermsValid [⟨L T4, l⟩, ⟨I, vars⟩] Q = Q [⟨B, decide (((kdsOf l vars).length : Int) > 0)⟩] := by
 refine Mc.Ends.c (mc.ends F_spec_TermsValid ?_)
 simp (contextual := true) (maxSteps := 1000000) (disch := omega) only [↓Sd, ↓So, ↓Sk, ↓den, ↓denA, Sa, Sb, Sc, Se, O1.d, O2.d, O3.d, cmI, arI, envOf, putN, ↓reduceIte, Nat.reduceLT, Nat.reduceSub, Nat.reduceAdd, Int.reduceAdd, Int.reduceEq, Int.reduceLT, Int.reduceLE, arr_pos, arr_neg, tr_spec_TermsValid, C_spec_KindsOf l vars hl]
theorem D_Joined (o : Int) (l m : List Tm) (vars : Int) (hl : l.length ≤ 1000) (hm : m.length ≤ 1000) {Q : List AV → Prop} (h : ∀ (r : List Tm), r.length ≤ l.length + m.length + 1 → Q [⟨L T4, r⟩]) : mc.C f_spec_Joined [⟨I, o⟩, ⟨L T4, l⟩, ⟨L T4, m⟩, ⟨I, vars⟩] Q := by
 have h1 : Few l := by unfold Few; omega
 have h2 : Few m := by unfold Few; omega
 refine mc.c_of F_spec_Joined ?_
 simp (contextual := true) (maxSteps := 1000000) (disch := omega) only [↓Sd, ↓So, ↓Sk, ↓den, ↓denA, Sa, Sb, Sc, Se, O1.d, O2.d, O3.d, cmI, arI, envOf, putN, ↓reduceIte, Nat.reduceLT, Nat.reduceSub, Nat.reduceAdd, Int.reduceAdd, Int.reduceEq, Int.reduceLT, Int.reduceLE, arr_pos, arr_neg, tr_spec_Joined, C_spec_TermsValid l vars h1, C_spec_TermsValid m vars h2]
 refine ⟨fun _ => h _ (by simp), fun _ => ⟨fun _ => h _ (by simp), fun _ => ?_⟩⟩
 refine mc.lp_for (List Tm) (fun i s => [⟨I, o⟩, ⟨L T4, l⟩, ⟨L T4, m⟩, ⟨I, vars⟩, ⟨I, (i : Int)⟩, ⟨L T4, s⟩]) (fun i s => s.length = i) l.length 0 [] _ rfl (Nat.zero_le _) rfl ?_ ?_
 ·rintro i s hi hs
  simp (contextual := true) (maxSteps := 1000000) (disch := omega) only [↓Sd, ↓So, ↓Sk, ↓den, ↓denA, Sa, Sb, Sc, Se, O1.d, O2.d, O3.d, cmI, arI, envOf, putN, ↓reduceIte, Nat.reduceLT, Nat.reduceSub, Nat.reduceAdd, Int.reduceAdd, Int.reduceEq, Int.reduceLT, Int.reduceLE, arr_pos, arr_neg, ]
  omega
 rintro s hs
 simp (contextual := true) (maxSteps := 1000000) (disch := omega) only [↓Sd, ↓So, ↓Sk, ↓den, ↓denA, Sa, Sb, Sc, Se, O1.d, O2.d, O3.d, cmI, arI, envOf, putN, ↓reduceIte, Nat.reduceLT, Nat.reduceSub, Nat.reduceAdd, Int.reduceAdd, Int.reduceEq, Int.reduceLT, Int.reduceLE, arr_pos, arr_neg, ↓wpJoin, ]
 refine mc.lp_for (List Tm) (fun i s => [⟨I, o⟩, ⟨L T4, l⟩, ⟨L T4, m⟩, ⟨I, vars⟩, ⟨I, (i : Int)⟩, ⟨L T4, s⟩]) (fun i s => s.length ≤ l.length + i) m.length 0 s _ rfl (Nat.zero_le _) (by omega) ?_ ?_
 ·rintro i s hi hs
  simp (contextual := true) (maxSteps := 1000000) (disch := omega) only [↓Sd, ↓So, ↓Sk, ↓den, ↓denA, Sa, Sb, Sc, Se, O1.d, O2.d, O3.d, cmI, arI, envOf, putN, ↓reduceIte, Nat.reduceLT, Nat.reduceSub, Nat.reduceAdd, Int.reduceAdd, Int.reduceEq, Int.reduceLT, Int.reduceLE, arr_pos, arr_neg, C_spec_l1One, C_spec_l1Moved]
  refine ⟨fun _ => by omega, fun g => ?_⟩
  have hf : Few (s ++ [((7 : Int), (0 : Int), (l.length : Int) - 1, (s.length : Int) - 1)]) := by unfold Few; simp only [List.length_append, List.length_singleton]; omega
  simp (contextual := true) (maxSteps := 1000000) (disch := omega) only [↓Sd, ↓So, ↓Sk, ↓den, ↓denA, Sa, Sb, Sc, Se, O1.d, O2.d, O3.d, cmI, arI, envOf, putN, ↓reduceIte, Nat.reduceLT, Nat.reduceSub, Nat.reduceAdd, Int.reduceAdd, Int.reduceEq, Int.reduceLT, Int.reduceLE, arr_pos, arr_neg, C_spec_TermsValid _ vars hf]
  exact ⟨fun _ => h _ (by simp), fun _ => h _ (by simp only [List.length_append, List.length_singleton]; omega)⟩
 ·rintro s hs
  simp (contextual := true) (maxSteps := 1000000) (disch := omega) only [↓Sd, ↓So, ↓Sk, ↓den, ↓denA, Sa, Sb, Sc, Se, O1.d, O2.d, O3.d, cmI, arI, envOf, putN, ↓reduceIte, Nat.reduceLT, Nat.reduceSub, Nat.reduceAdd, Int.reduceAdd, Int.reduceEq, Int.reduceLT, Int.reduceLE, arr_pos, arr_neg, ]
  refine ⟨fun _ => h _ (by simp), fun _ => ?_⟩
  have hf : Few (s ++ [(o, (0 : Int), (l.length : Int) - 1, (s.length : Int) - 1)]) := by unfold Few; simp only [List.length_append, List.length_singleton]; omega
  simp (contextual := true) (maxSteps := 1000000) (disch := omega) only [↓Sd, ↓So, ↓Sk, ↓den, ↓denA, Sa, Sb, Sc, Se, O1.d, O2.d, O3.d, cmI, arI, envOf, putN, ↓reduceIte, Nat.reduceLT, Nat.reduceSub, Nat.reduceAdd, Int.reduceAdd, Int.reduceEq, Int.reduceLT, Int.reduceLE, arr_pos, arr_neg, C_spec_TermsValid _ vars hf]
  exact ⟨fun _ => h _ (by simp), fun _ => h _ (by simp only [List.length_append, List.length_singleton]; omega)⟩
theorem D_l2When (b : List Int) (p : Int) (vs : List Vr) (hb : Rdy b) (hp : 0 ≤ p ∧ p ≤ 800000000) (hv : 1 ≤ vs.length) (hv2 : vs.length ≤ 1000) {Q : List AV → Prop} (h : ∀ (l : List Tm) (p' : Int), p ≤ p' ∧ p' ≤ p + 10 → l.length ≤ 9 → Q [⟨L T4, l⟩, ⟨RD, (b, p')⟩]) : mc.C f_spec_l2When [⟨RD, (b, p)⟩, ⟨L V3, vs⟩] Q := by
 refine mc.c_of F_spec_l2When ?_
 simp (contextual := true) (maxSteps := 1000000) (disch := omega) only [↓Sd, ↓So, ↓Sk, ↓den, ↓denA, Sa, Sb, Sc, Se, O1.d, O2.d, O3.d, cmI, arI, envOf, putN, ↓reduceIte, Nat.reduceLT, Nat.reduceSub, Nat.reduceAdd, Int.reduceAdd, Int.reduceEq, Int.reduceLT, Int.reduceLE, arr_pos, arr_neg, tr_spec_l2When]
 refine D_pick1 _ _ _ hb (by omega) (by omega) fun i i0 i1 => ?_; simp (contextual := true) (maxSteps := 1000000) (disch := omega) only [↓Sd, ↓So, ↓Sk, ↓den, ↓denA, Sa, Sb, Sc, Se, O1.d, O2.d, O3.d, cmI, arI, envOf, putN, ↓reduceIte, Nat.reduceLT, Nat.reduceSub, Nat.reduceAdd, Int.reduceAdd, Int.reduceEq, Int.reduceLT, Int.reduceLE, arr_pos, arr_neg, ]
 refine D_l2Cond _ _ (vs.getD i.toNat (0, 0, 0)) _ hb (by omega) fun l p1 hp1 hl => ?_
 simp (contextual := true) (maxSteps := 1000000) (disch := omega) only [↓Sd, ↓So, ↓Sk, ↓den, ↓denA, Sa, Sb, Sc, Se, O1.d, O2.d, O3.d, cmI, arI, envOf, putN, ↓reduceIte, Nat.reduceLT, Nat.reduceSub, Nat.reduceAdd, Int.reduceAdd, Int.reduceEq, Int.reduceLT, Int.reduceLE, arr_pos, arr_neg, ↓wpJoin, ]
 refine D_pick1 _ _ _ hb (by omega) (by omega) fun k k0 k1 => ?_; simp (contextual := true) (maxSteps := 1000000) (disch := omega) only [↓Sd, ↓So, ↓Sk, ↓den, ↓denA, Sa, Sb, Sc, Se, O1.d, O2.d, O3.d, cmI, arI, envOf, putN, ↓reduceIte, Nat.reduceLT, Nat.reduceSub, Nat.reduceAdd, Int.reduceAdd, Int.reduceEq, Int.reduceLT, Int.reduceLE, arr_pos, arr_neg, ]
 refine ⟨fun _ => ?_, fun _ => h _ _ (by omega) (by omega)⟩
 refine D_pick1 _ _ _ hb (by omega) (by omega) fun j j0 j1 => ?_; simp (contextual := true) (maxSteps := 1000000) (disch := omega) only [↓Sd, ↓So, ↓Sk, ↓den, ↓denA, Sa, Sb, Sc, Se, O1.d, O2.d, O3.d, cmI, arI, envOf, putN, ↓reduceIte, Nat.reduceLT, Nat.reduceSub, Nat.reduceAdd, Int.reduceAdd, Int.reduceEq, Int.reduceLT, Int.reduceLE, arr_pos, arr_neg, ]
 refine D_num _ _ _ hb (by omega) (by simp) (by simp) fun o o0 => ?_; simp (contextual := true) (maxSteps := 1000000) (disch := omega) only [↓Sd, ↓So, ↓Sk, ↓den, ↓denA, Sa, Sb, Sc, Se, O1.d, O2.d, O3.d, cmI, arI, envOf, putN, ↓reduceIte, Nat.reduceLT, Nat.reduceSub, Nat.reduceAdd, Int.reduceAdd, Int.reduceEq, Int.reduceLT, Int.reduceLE, arr_pos, arr_neg, ]
 refine D_l2Cond _ _ (vs.getD j.toNat (0, 0, 0)) _ hb (by omega) fun m p2 hp2 hm => ?_
 simp (contextual := true) (maxSteps := 1000000) (disch := omega) only [↓Sd, ↓So, ↓Sk, ↓den, ↓denA, Sa, Sb, Sc, Se, O1.d, O2.d, O3.d, cmI, arI, envOf, putN, ↓reduceIte, Nat.reduceLT, Nat.reduceSub, Nat.reduceAdd, Int.reduceAdd, Int.reduceEq, Int.reduceLT, Int.reduceLE, arr_pos, arr_neg, ]
 refine D_Joined _ _ _ _ (by omega) (by omega) fun r hr => ?_
 simp (contextual := true) (maxSteps := 1000000) (disch := omega) only [↓Sd, ↓So, ↓Sk, ↓den, ↓denA, Sa, Sb, Sc, Se, O1.d, O2.d, O3.d, cmI, arI, envOf, putN, ↓reduceIte, Nat.reduceLT, Nat.reduceSub, Nat.reduceAdd, Int.reduceAdd, Int.reduceEq, Int.reduceLT, Int.reduceLE, arr_pos, arr_neg, ↓wpJoin, ]
 exact h _ _ (by omega) (by omega)
theorem D_l1Terms (b : List Int) (p vars kind most : Int) (hb : Rdy b) (hp : 0 ≤ p ∧ p ≤ 800000000) (hv : 0 ≤ vars ∧ vars ≤ 5) (hm : 1 ≤ most ∧ most ≤ 12) {Q : List AV → Prop} (h : ∀ (l : List Tm) (p' : Int), p ≤ p' ∧ p' ≤ p + 400 → 1 ≤ l.length → l.length ≤ 16 → Q [⟨L T4, l⟩, ⟨RD, (b, p')⟩]) : mc.C f_spec_l1Terms [⟨RD, (b, p)⟩, ⟨I, vars⟩, ⟨I, kind⟩, ⟨I, most⟩] Q := by
 refine mc.c_of F_spec_l1Terms ?_
 simp (contextual := true) (maxSteps := 1000000) (disch := omega) only [↓Sd, ↓So, ↓Sk, ↓den, ↓denA, Sa, Sb, Sc, Se, O1.d, O2.d, O3.d, cmI, arI, envOf, putN, ↓reduceIte, Nat.reduceLT, Nat.reduceSub, Nat.reduceAdd, Int.reduceAdd, Int.reduceEq, Int.reduceLT, Int.reduceLE, arr_pos, arr_neg, tr_spec_l1Terms]
 refine D_pick1 _ _ _ hb (by omega) (by omega) fun n n0 n1 => ?_; simp (contextual := true) (maxSteps := 1000000) (disch := omega) only [↓Sd, ↓So, ↓Sk, ↓den, ↓denA, Sa, Sb, Sc, Se, O1.d, O2.d, O3.d, cmI, arI, envOf, putN, ↓reduceIte, Nat.reduceLT, Nat.reduceSub, Nat.reduceAdd, Int.reduceAdd, Int.reduceEq, Int.reduceLT, Int.reduceLE, arr_pos, arr_neg, ]
 obtain ⟨N, hN⟩ : ∃ N : Nat, n = N := ⟨n.toNat, by omega⟩
 subst hN
 refine mc.lp_inv (fun k us => ∃ (p1 : Int) (l : List Tm) (ks : List Int), us = [⟨I, vars⟩, ⟨I, kind⟩, ⟨I, (k : Int)⟩, ⟨L U, b⟩, ⟨I, p1⟩, ⟨L T4, l⟩, ⟨L I, ks⟩] ∧ l.length = ks.length ∧ l.length + k ≤ 2 + N ∧ p ≤ p1 ∧ p1 + 20 * k ≤ p + 1 + 20 * (2 + N)) (2 + N) _ ⟨p + 1, [], [], by simp, rfl, by simp, by omega, by omega⟩ ?_
 rintro k us ⟨p1, l, ks, rfl, i1, i2, i3, i4⟩
 cases k with
 | zero =>
  simp (contextual := true) (maxSteps := 1000000) (disch := omega) only [↓Sd, ↓So, ↓Sk, ↓den, ↓denA, Sa, Sb, Sc, Se, O1.d, O2.d, O3.d, cmI, arI, envOf, putN, ↓reduceIte, Nat.reduceLT, Nat.reduceSub, Nat.reduceAdd, Int.reduceAdd, Int.reduceEq, Int.reduceLT, Int.reduceLE, arr_pos, arr_neg, ]
  refine mc.wp_join (fun us => ∃ (l : List Tm) (ks : List Int), us = [⟨I, kind⟩, ⟨L U, b⟩, ⟨I, p1⟩, ⟨L T4, l⟩, ⟨L I, ks⟩] ∧ l.length = ks.length ∧ 1 ≤ l.length ∧ l.length ≤ 14) ?_ ?_
  ·simp (contextual := true) (maxSteps := 1000000) (disch := omega) only [↓Sd, ↓So, ↓Sk, ↓den, ↓denA, Sa, Sb, Sc, Se, O1.d, O2.d, O3.d, cmI, arI, envOf, putN, ↓reduceIte, Nat.reduceLT, Nat.reduceSub, Nat.reduceAdd, Int.reduceAdd, Int.reduceEq, Int.reduceLT, Int.reduceLE, arr_pos, arr_neg, ]
   refine ⟨fun g => ⟨_, _, ⟨rfl, rfl⟩, by simp [i1], by simp, ?_⟩, fun g => ⟨l, ks, ⟨rfl, rfl⟩, i1, by omega, by omega⟩⟩
   simp only [List.length_append, List.length_singleton]; omega
  ·rintro us ⟨l, ks, rfl, a1, a2, a3⟩
   refine mc.wp_join (fun us => ∃ (p2 : Int) (l : List Tm), us = [⟨L U, b⟩, ⟨I, p2⟩, ⟨L T4, l⟩] ∧ p ≤ p2 ∧ p2 ≤ p + 390 ∧ 1 ≤ l.length ∧ l.length ≤ 16) ?_ ?_
   ·have ln1 : ∀ x : Tm, 1 ≤ (l ++ [x]).length ∧ (l ++ [x]).length ≤ 16 := fun x => by simp only [List.length_append, List.length_singleton]; omega
    simp (contextual := true) (maxSteps := 1000000) (disch := omega) only [↓Sd, ↓So, ↓Sk, ↓den, ↓denA, Sa, Sb, Sc, Se, O1.d, O2.d, O3.d, cmI, arI, envOf, putN, ↓reduceIte, Nat.reduceLT, Nat.reduceSub, Nat.reduceAdd, Int.reduceAdd, Int.reduceEq, Int.reduceLT, Int.reduceLE, arr_pos, arr_neg, ]
    refine ⟨fun _ => ⟨fun _ => ?_, fun _ => ⟨_, _, ⟨rfl, rfl⟩, by omega, by omega, by omega, by omega⟩⟩, fun _ => ⟨fun _ => ⟨fun _ => ?_, fun _ => ⟨_, _, ⟨rfl, rfl⟩, by omega, by omega, by omega, by omega⟩⟩, fun _ => ⟨_, _, ⟨rfl, rfl⟩, by omega, by omega, by omega, by omega⟩⟩⟩
    ·refine D_num _ _ _ hb (by omega) (by simp) (by simp) fun o o0 => ?_; simp (contextual := true) (maxSteps := 1000000) (disch := omega) only [↓Sd, ↓So, ↓Sk, ↓den, ↓denA, Sa, Sb, Sc, Se, O1.d, O2.d, O3.d, cmI, arI, envOf, putN, ↓reduceIte, Nat.reduceLT, Nat.reduceSub, Nat.reduceAdd, Int.reduceAdd, Int.reduceEq, Int.reduceLT, Int.reduceLE, arr_pos, arr_neg, ]
     refine D_l1Pick _ _ _ _ hb (by omega) (by omega) (by omega) fun x hx => ?_
     simp (contextual := true) (maxSteps := 1000000) (disch := omega) only [↓Sd, ↓So, ↓Sk, ↓den, ↓denA, Sa, Sb, Sc, Se, O1.d, O2.d, O3.d, cmI, arI, envOf, putN, ↓reduceIte, Nat.reduceLT, Nat.reduceSub, Nat.reduceAdd, Int.reduceAdd, Int.reduceEq, Int.reduceLT, Int.reduceLE, arr_pos, arr_neg, ]
     exact ⟨_, _, ⟨rfl, rfl⟩, by omega, by omega, (ln1 _).1, (ln1 _).2⟩
    ·refine D_l1Pick _ _ _ _ hb (by omega) (by omega) (by omega) fun x hx => ?_
     simp (contextual := true) (maxSteps := 1000000) (disch := omega) only [↓Sd, ↓So, ↓Sk, ↓den, ↓denA, Sa, Sb, Sc, Se, O1.d, O2.d, O3.d, cmI, arI, envOf, putN, ↓reduceIte, Nat.reduceLT, Nat.reduceSub, Nat.reduceAdd, Int.reduceAdd, Int.reduceEq, Int.reduceLT, Int.reduceLE, arr_pos, arr_neg, ]
     refine D_num _ _ _ hb (by omega) (by simp) (by simp) fun o o0 => ?_; simp (contextual := true) (maxSteps := 1000000) (disch := omega) only [↓Sd, ↓So, ↓Sk, ↓den, ↓denA, Sa, Sb, Sc, Se, O1.d, O2.d, O3.d, cmI, arI, envOf, putN, ↓reduceIte, Nat.reduceLT, Nat.reduceSub, Nat.reduceAdd, Int.reduceAdd, Int.reduceEq, Int.reduceLT, Int.reduceLE, arr_pos, arr_neg, ]
     refine D_l1Pick _ _ _ _ hb (by omega) (by omega) (by omega) fun y hy => ?_
     simp (contextual := true) (maxSteps := 1000000) (disch := omega) only [↓Sd, ↓So, ↓Sk, ↓den, ↓denA, Sa, Sb, Sc, Se, O1.d, O2.d, O3.d, cmI, arI, envOf, putN, ↓reduceIte, Nat.reduceLT, Nat.reduceSub, Nat.reduceAdd, Int.reduceAdd, Int.reduceEq, Int.reduceLT, Int.reduceLE, arr_pos, arr_neg, ]
     exact ⟨_, _, ⟨rfl, rfl⟩, by omega, by omega, (ln1 _).1, (ln1 _).2⟩
   ·rintro us ⟨p2, l, rfl, c1, c2, c3, c4⟩
    simp (contextual := true) (maxSteps := 1000000) (disch := omega) only [↓Sd, ↓So, ↓Sk, ↓den, ↓denA, Sa, Sb, Sc, Se, O1.d, O2.d, O3.d, cmI, arI, envOf, putN, ↓reduceIte, Nat.reduceLT, Nat.reduceSub, Nat.reduceAdd, Int.reduceAdd, Int.reduceEq, Int.reduceLT, Int.reduceLE, arr_pos, arr_neg, ]
    exact h _ _ (by omega) (by omega) (by omega)
 | succ k =>
  simp (contextual := true) (maxSteps := 1000000) (disch := omega) only [↓Sd, ↓So, ↓Sk, ↓den, ↓denA, Sa, Sb, Sc, Se, O1.d, O2.d, O3.d, cmI, arI, envOf, putN, ↓reduceIte, Nat.reduceLT, Nat.reduceSub, Nat.reduceAdd, Int.reduceAdd, Int.reduceEq, Int.reduceLT, Int.reduceLE, arr_pos, arr_neg, ]
  refine mc.wp_join (fun us => ∃ (p2 : Int) (l : List Tm) (ks : List Int), us = [⟨I, vars⟩, ⟨I, kind⟩, ⟨I, (k : Int) + 1⟩, ⟨L U, b⟩, ⟨I, p2⟩, ⟨L T4, l⟩, ⟨L I, ks⟩] ∧ l.length = ks.length ∧ l.length + k ≤ 2 + N ∧ p ≤ p2 ∧ p2 + 20 * k ≤ p + 1 + 20 * (2 + N)) ?_ ?_
  ·simp (contextual := true) (maxSteps := 1000000) (disch := omega) only [↓Sd, ↓So, ↓Sk, ↓den, ↓denA, Sa, Sb, Sc, Se, O1.d, O2.d, O3.d, cmI, arI, envOf, putN, ↓reduceIte, Nat.reduceLT, Nat.reduceSub, Nat.reduceAdd, Int.reduceAdd, Int.reduceEq, Int.reduceLT, Int.reduceLE, arr_pos, arr_neg, ]
   refine D_num _ _ _ hb (by omega) (by simp) (by simp) fun o o0 => ?_; simp (contextual := true) (maxSteps := 1000000) (disch := omega) only [↓Sd, ↓So, ↓Sk, ↓den, ↓denA, Sa, Sb, Sc, Se, O1.d, O2.d, O3.d, cmI, arI, envOf, putN, ↓reduceIte, Nat.reduceLT, Nat.reduceSub, Nat.reduceAdd, Int.reduceAdd, Int.reduceEq, Int.reduceLT, Int.reduceLE, arr_pos, arr_neg, ]
   refine mc.wp_join (fun us => ∃ (p2 : Int) (t : Tm), us = [⟨I, vars⟩, ⟨I, kind⟩, ⟨I, (k : Int) + 1⟩, ⟨L U, b⟩, ⟨I, p2⟩, ⟨L T4, l⟩, ⟨L I, ks⟩, ⟨I, t.1⟩, ⟨I, t.2.1⟩, ⟨I, t.2.2.1⟩, ⟨I, t.2.2.2⟩] ∧ p ≤ p2 ∧ p2 ≤ p1 + 10) ?_ ?_
   ·simp (contextual := true) (maxSteps := 1000000) (disch := omega) only [↓Sd, ↓So, ↓Sk, ↓den, ↓denA, Sa, Sb, Sc, Se, O1.d, O2.d, O3.d, cmI, arI, envOf, putN, ↓reduceIte, Nat.reduceLT, Nat.reduceSub, Nat.reduceAdd, Int.reduceAdd, Int.reduceEq, Int.reduceLT, Int.reduceLE, arr_pos, arr_neg, ]
    refine ⟨fun g => ?_, fun g => ⟨fun g2 => ?_, fun g2 => ?_⟩⟩
    ·refine D_l1Number _ _ hb (by omega) fun x p2 hp2 => ?_
     simp (contextual := true) (maxSteps := 1000000) (disch := omega) only [↓Sd, ↓So, ↓Sk, ↓den, ↓denA, Sa, Sb, Sc, Se, O1.d, O2.d, O3.d, cmI, arI, envOf, putN, ↓reduceIte, Nat.reduceLT, Nat.reduceSub, Nat.reduceAdd, Int.reduceAdd, Int.reduceEq, Int.reduceLT, Int.reduceLE, arr_pos, arr_neg, ]
     refine ⟨fun _ => ⟨fun _ => ?_, fun _ => ⟨_, ((0 : Int), x, (0 : Int), (0 : Int)), ⟨rfl, rfl, rfl, rfl, rfl⟩, by omega, by omega⟩⟩, fun _ => ⟨_, ((0 : Int), x, (0 : Int), (0 : Int)), ⟨rfl, rfl, rfl, rfl, rfl⟩, by omega, by omega⟩⟩
     refine D_pick1 _ _ _ hb (by omega) (by omega) fun y y0 y1 => ?_; simp (contextual := true) (maxSteps := 1000000) (disch := omega) only [↓Sd, ↓So, ↓Sk, ↓den, ↓denA, Sa, Sb, Sc, Se, O1.d, O2.d, O3.d, cmI, arI, envOf, putN, ↓reduceIte, Nat.reduceLT, Nat.reduceSub, Nat.reduceAdd, Int.reduceAdd, Int.reduceEq, Int.reduceLT, Int.reduceLE, arr_pos, arr_neg, ]
     exact ⟨_, ((1 : Int), y, (0 : Int), (0 : Int)), ⟨rfl, rfl, rfl, rfl, rfl⟩, by omega, by omega⟩
    ·refine D_l1Number _ _ hb (by omega) fun x p2 hp2 => ?_
     simp (contextual := true) (maxSteps := 1000000) (disch := omega) only [↓Sd, ↓So, ↓Sk, ↓den, ↓denA, Sa, Sb, Sc, Se, O1.d, O2.d, O3.d, cmI, arI, envOf, putN, ↓reduceIte, Nat.reduceLT, Nat.reduceSub, Nat.reduceAdd, Int.reduceAdd, Int.reduceEq, Int.reduceLT, Int.reduceLE, arr_pos, arr_neg, ]
     refine ⟨fun _ => ⟨fun _ => ?_, fun _ => ⟨_, ((0 : Int), x, (0 : Int), (0 : Int)), ⟨rfl, rfl, rfl, rfl, rfl⟩, by omega, by omega⟩⟩, fun _ => ⟨_, ((0 : Int), x, (0 : Int), (0 : Int)), ⟨rfl, rfl, rfl, rfl, rfl⟩, by omega, by omega⟩⟩
     refine D_pick1 _ _ _ hb (by omega) (by omega) fun y y0 y1 => ?_; simp (contextual := true) (maxSteps := 1000000) (disch := omega) only [↓Sd, ↓So, ↓Sk, ↓den, ↓denA, Sa, Sb, Sc, Se, O1.d, O2.d, O3.d, cmI, arI, envOf, putN, ↓reduceIte, Nat.reduceLT, Nat.reduceSub, Nat.reduceAdd, Int.reduceAdd, Int.reduceEq, Int.reduceLT, Int.reduceLE, arr_pos, arr_neg, ]
     exact ⟨_, ((1 : Int), y, (0 : Int), (0 : Int)), ⟨rfl, rfl, rfl, rfl, rfl⟩, by omega, by omega⟩
    ·refine mc.wp_join (fun us => ∃ w : Int, us = [⟨I, vars⟩, ⟨I, kind⟩, ⟨I, (k : Int) + 1⟩, ⟨I, o⟩, ⟨I, w⟩, ⟨L U, b⟩, ⟨I, p1 + 1⟩, ⟨L T4, l⟩, ⟨L I, ks⟩, ⟨I, o⟩, ⟨I, (0 : Int)⟩, ⟨I, (0 : Int)⟩, ⟨I, (0 : Int)⟩]) ?_ ?_
     ·simp (contextual := true) (maxSteps := 1000000) (disch := omega) only [↓Sd, ↓So, ↓Sk, ↓den, ↓denA, Sa, Sb, Sc, Se, O1.d, O2.d, O3.d, cmI, arI, envOf, putN, ↓reduceIte, Nat.reduceLT, Nat.reduceSub, Nat.reduceAdd, Int.reduceAdd, Int.reduceEq, Int.reduceLT, Int.reduceLE, arr_pos, arr_neg, ]
      exact ⟨fun _ => ⟨2, rfl⟩, fun _ => ⟨1, rfl⟩⟩
     ·rintro us ⟨w, rfl⟩
      simp (contextual := true) (maxSteps := 1000000) (disch := omega) only [↓Sd, ↓So, ↓Sk, ↓den, ↓denA, Sa, Sb, Sc, Se, O1.d, O2.d, O3.d, cmI, arI, envOf, putN, ↓reduceIte, Nat.reduceLT, Nat.reduceSub, Nat.reduceAdd, Int.reduceAdd, Int.reduceEq, Int.reduceLT, Int.reduceLE, arr_pos, arr_neg, ]
      refine D_l1Pick _ _ _ _ hb (by omega) (by omega) (by omega) fun x hx => ?_
      simp (contextual := true) (maxSteps := 1000000) (disch := omega) only [↓Sd, ↓So, ↓Sk, ↓den, ↓denA, Sa, Sb, Sc, Se, O1.d, O2.d, O3.d, cmI, arI, envOf, putN, ↓reduceIte, Nat.reduceLT, Nat.reduceSub, Nat.reduceAdd, Int.reduceAdd, Int.reduceEq, Int.reduceLT, Int.reduceLE, arr_pos, arr_neg, ]
      refine D_l1Pick _ _ _ _ hb (by omega) (by omega) (by omega) fun y hy => ?_
      simp (contextual := true) (maxSteps := 1000000) (disch := omega) only [↓Sd, ↓So, ↓Sk, ↓den, ↓denA, Sa, Sb, Sc, Se, O1.d, O2.d, O3.d, cmI, arI, envOf, putN, ↓reduceIte, Nat.reduceLT, Nat.reduceSub, Nat.reduceAdd, Int.reduceAdd, Int.reduceEq, Int.reduceLT, Int.reduceLE, arr_pos, arr_neg, C_spec_l1One]
      exact ⟨fun _ => ⟨_, ((7 : Int), (0 : Int), x, x), ⟨rfl, rfl, rfl, rfl, rfl⟩, by omega, by omega⟩, fun _ => ⟨_, (o, (0 : Int), x, y), ⟨rfl, rfl, rfl, rfl, rfl⟩, by omega, by omega⟩⟩
   ·rintro us ⟨p2, t, rfl, c1, c2⟩
    simp (contextual := true) (maxSteps := 1000000) (disch := omega) only [↓Sd, ↓So, ↓Sk, ↓den, ↓denA, Sa, Sb, Sc, Se, O1.d, O2.d, O3.d, cmI, arI, envOf, putN, ↓reduceIte, Nat.reduceLT, Nat.reduceSub, Nat.reduceAdd, Int.reduceAdd, Int.reduceEq, Int.reduceLT, Int.reduceLE, arr_pos, arr_neg, C_spec_l1Kind t ks vars hv (by omega)]
    refine ⟨fun _ => ⟨_, _, _, ⟨rfl, rfl, rfl⟩, ?_, ?_, by omega, by omega⟩, fun _ => ⟨_, _, _, ⟨rfl, rfl, rfl⟩, i1, by omega, by omega, by omega⟩⟩
    ·simp only [List.length_append, List.length_singleton]; omega
    ·simp only [List.length_append, List.length_singleton]; omega
  ·rintro us ⟨p2, l, ks, rfl, a1, a2, a3, a4⟩
   simp (contextual := true) (maxSteps := 1000000) (disch := omega) only [↓Sd, ↓So, ↓Sk, ↓den, ↓denA, Sa, Sb, Sc, Se, O1.d, O2.d, O3.d, cmI, arI, envOf, putN, ↓reduceIte, Nat.reduceLT, Nat.reduceSub, Nat.reduceAdd, Int.reduceAdd, Int.reduceEq, Int.reduceLT, Int.reduceLE, arr_pos, arr_neg, ]
   exact ⟨k, by omega, p2, l, ks, ⟨rfl, rfl, rfl, rfl⟩, a1, a2, a3, a4⟩
theorem D_l2Value (b : List Int) (p : Int) (vs : List Vr) (k : Int) (i : Nat) (hk : k = i) (hb : Rdy b) (hp : 0 ≤ p ∧ p ≤ 700000000) (hv : vs.length ≤ 5) (hi : i < vs.length) {Q : List AV → Prop} (h : ∀ (l : List Tm) (p' : Int), p ≤ p' ∧ p' ≤ p + 500 → l.length ≤ 16 → Q [⟨L T4, l⟩, ⟨RD, (b, p')⟩]) : mc.C f_spec_l2Value [⟨RD, (b, p)⟩, ⟨L V3, vs⟩, ⟨I, k⟩] Q := by
 subst hk
 refine mc.c_of F_spec_l2Value ?_
 simp (contextual := true) (maxSteps := 1000000) (disch := omega) only [↓Sd, ↓So, ↓Sk, ↓den, ↓denA, Sa, Sb, Sc, Se, O1.d, O2.d, O3.d, cmI, arI, envOf, putN, ↓reduceIte, Nat.reduceLT, Nat.reduceSub, Nat.reduceAdd, Int.reduceAdd, Int.reduceEq, Int.reduceLT, Int.reduceLE, arr_pos, arr_neg, tr_spec_l2Value]
 refine D_pick1 _ _ _ hb (by omega) (by omega) fun k k0 k1 => ?_; simp (contextual := true) (maxSteps := 1000000) (disch := omega) only [↓Sd, ↓So, ↓Sk, ↓den, ↓denA, Sa, Sb, Sc, Se, O1.d, O2.d, O3.d, cmI, arI, envOf, putN, ↓reduceIte, Nat.reduceLT, Nat.reduceSub, Nat.reduceAdd, Int.reduceAdd, Int.reduceEq, Int.reduceLT, Int.reduceLE, arr_pos, arr_neg, ]
 refine ⟨fun _ => ?_, fun _ => ⟨fun _ => ?_, fun _ => ⟨fun _ => ?_, fun _ => ?_⟩⟩⟩
 ·simp (contextual := true) (maxSteps := 1000000) (disch := omega) only [↓Sd, ↓So, ↓Sk, ↓den, ↓denA, Sa, Sb, Sc, Se, O1.d, O2.d, O3.d, cmI, arI, envOf, putN, ↓reduceIte, Nat.reduceLT, Nat.reduceSub, Nat.reduceAdd, Int.reduceAdd, Int.reduceEq, Int.reduceLT, Int.reduceLE, arr_pos, arr_neg, C_spec_l2VarOf, C_spec_l2Const]
  refine D_num _ _ _ hb (by omega) (by simp) (by simp) fun o o0 => ?_; simp (contextual := true) (maxSteps := 1000000) (disch := omega) only [↓Sd, ↓So, ↓Sk, ↓den, ↓denA, Sa, Sb, Sc, Se, O1.d, O2.d, O3.d, cmI, arI, envOf, putN, ↓reduceIte, Nat.reduceLT, Nat.reduceSub, Nat.reduceAdd, Int.reduceAdd, Int.reduceEq, Int.reduceLT, Int.reduceLE, arr_pos, arr_neg, ]
  exact h _ _ (by omega) (by simp)
 ·refine D_pick _ _ _ hb (by omega) fun n _ _ => ?_
  simp (contextual := true) (maxSteps := 1000000) (disch := omega) only [↓Sd, ↓So, ↓Sk, ↓den, ↓denA, Sa, Sb, Sc, Se, O1.d, O2.d, O3.d, cmI, arI, envOf, putN, ↓reduceIte, Nat.reduceLT, Nat.reduceSub, Nat.reduceAdd, Int.reduceAdd, Int.reduceEq, Int.reduceLT, Int.reduceLE, arr_pos, arr_neg, ↓wpJoin, C_spec_l2Const]
  exact h _ _ (by omega) (by simp)
 ·refine D_pick1 _ _ _ hb (by omega) (by omega) fun n n0 n1 => ?_; simp (contextual := true) (maxSteps := 1000000) (disch := omega) only [↓Sd, ↓So, ↓Sk, ↓den, ↓denA, Sa, Sb, Sc, Se, O1.d, O2.d, O3.d, cmI, arI, envOf, putN, ↓reduceIte, Nat.reduceLT, Nat.reduceSub, Nat.reduceAdd, Int.reduceAdd, Int.reduceEq, Int.reduceLT, Int.reduceLE, arr_pos, arr_neg, ]
  simp (contextual := true) (maxSteps := 1000000) (disch := omega) only [↓Sd, ↓So, ↓Sk, ↓den, ↓denA, Sa, Sb, Sc, Se, O1.d, O2.d, O3.d, cmI, arI, envOf, putN, ↓reduceIte, Nat.reduceLT, Nat.reduceSub, Nat.reduceAdd, Int.reduceAdd, Int.reduceEq, Int.reduceLT, Int.reduceLE, arr_pos, arr_neg, C_spec_l2VarOf]
  exact h _ _ (by omega) (by simp)
 ·refine D_l1Terms _ _ _ _ _ hb (by omega) (by omega) (by omega) fun l p2 h1 h2 h3 => ?_
  simp (contextual := true) (maxSteps := 1000000) (disch := omega) only [↓Sd, ↓So, ↓Sk, ↓den, ↓denA, Sa, Sb, Sc, Se, O1.d, O2.d, O3.d, cmI, arI, envOf, putN, ↓reduceIte, Nat.reduceLT, Nat.reduceSub, Nat.reduceAdd, Int.reduceAdd, Int.reduceEq, Int.reduceLT, Int.reduceLE, arr_pos, arr_neg, ]
  exact h _ _ (by omega) (by omega)
def SmRu (r : Ru) : Prop := r.1.length ≤ 100 ∧ r.2.1.length ≤ 100 ∧ r.2.2.length ≤ 100 ∧ ∀ x ∈ r.2.2, x.length ≤ 100
def SmR5 (r : Ru) : Prop := r.1.length ≤ 50 ∧ r.2.1.length ≤ 50 ∧ r.2.2.length ≤ 50 ∧ ∀ x ∈ r.2.2, x.length ≤ 50
theorem SmR5.sm {r : Ru} (h : SmR5 r) : SmRu r := ⟨by have := h.1; omega, by have := h.2.1; omega, by have := h.2.2.1; omega, fun x hx => by have := h.2.2.2 x hx; omega⟩
def SmSy (s : Sy) : Prop := s.1.length ≤ 3 ∧ s.2.length ≤ 9 ∧ ∀ r ∈ s.2, SmRu r
theorem SmSy.few {s : Sy} (h : SmSy s) : FewSy s := by
 refine ⟨by have := h.1; unfold Few; omega, by have := h.2.1; unfold Few; omega, fun r hr => ?_⟩
 have h1 := h.2.2 r hr
 exact ⟨by have := h1.1; unfold Few; omega, by have := h1.2.1; unfold Few; omega, by have := h1.2.2.1; unfold Few; omega, fun x hx => by have := h1.2.2.2 x hx; unfold Few; omega⟩
theorem D_l2Rules (b : List Int) (p : Int) (vs : List Vr) (many : Nat) (hb : Rdy b) (hp : 0 ≤ p ∧ p ≤ 600000000) (hv1 : 1 ≤ vs.length) (hv : vs.length ≤ 3) (hm : many ≤ 9) {Q : List AV → Prop} (h : ∀ (l : List Ru) (p' : Int), p ≤ p' ∧ p' ≤ p + 20000 → l.length ≤ many → (∀ r ∈ l, SmR5 r) → Q [⟨L TR, l⟩, ⟨RD, (b, p')⟩]) : mc.C f_spec_l2Rules [⟨RD, (b, p)⟩, ⟨L V3, vs⟩, ⟨I, (many : Int)⟩] Q := by
 refine mc.c_of F_spec_l2Rules ?_
 simp (contextual := true) (maxSteps := 1000000) (disch := omega) only [↓Sd, ↓So, ↓Sk, ↓den, ↓denA, Sa, Sb, Sc, Se, O1.d, O2.d, O3.d, cmI, arI, envOf, putN, ↓reduceIte, Nat.reduceLT, Nat.reduceSub, Nat.reduceAdd, Int.reduceAdd, Int.reduceEq, Int.reduceLT, Int.reduceLE, arr_pos, arr_neg, tr_spec_l2Rules]
 refine mc.lp_for (Int × List Ru) (fun i s => [⟨L V3, vs⟩, ⟨I, (many : Int)⟩, ⟨I, (i : Int)⟩, ⟨L U, b⟩, ⟨I, s.1⟩, ⟨L TR, s.2⟩]) (fun i s => p ≤ s.1 ∧ s.1 ≤ p + 2000 * i ∧ s.2.length = i ∧ ∀ r ∈ s.2, SmR5 r) many 0 (p, []) _ rfl (Nat.zero_le _) ⟨by simp, by simp, rfl, by simp⟩ ?_ ?_
 ·rintro i ⟨p1, l⟩ hi ⟨a1, a2, a3, a4⟩
  simp only at a1 a2 a3 a4
  simp (contextual := true) (maxSteps := 1000000) (disch := omega) only [↓Sd, ↓So, ↓Sk, ↓den, ↓denA, Sa, Sb, Sc, Se, O1.d, O2.d, O3.d, cmI, arI, envOf, putN, ↓reduceIte, Nat.reduceLT, Nat.reduceSub, Nat.reduceAdd, Int.reduceAdd, Int.reduceEq, Int.reduceLT, Int.reduceLE, arr_pos, arr_neg, ]
  refine D_l2When _ _ _ hb (by omega) hv1 (by omega) fun w p2 hp2 hw => ?_
  simp (contextual := true) (maxSteps := 1000000) (disch := omega) only [↓Sd, ↓So, ↓Sk, ↓den, ↓denA, Sa, Sb, Sc, Se, O1.d, O2.d, O3.d, cmI, arI, envOf, putN, ↓reduceIte, Nat.reduceLT, Nat.reduceSub, Nat.reduceAdd, Int.reduceAdd, Int.reduceEq, Int.reduceLT, Int.reduceLE, arr_pos, arr_neg, ]
  refine mc.lp_for (Int × List Int × List (List Tm)) (fun j s => [⟨L V3, vs⟩, ⟨I, (many : Int)⟩, ⟨I, (i : Int)⟩, ⟨I, (j : Int)⟩, ⟨L U, b⟩, ⟨I, s.1⟩, ⟨L TR, l⟩, ⟨L T4, w⟩, ⟨L I, s.2.1⟩, ⟨L (L T4), s.2.2⟩]) (fun j s => p2 ≤ s.1 ∧ s.1 ≤ p2 + 510 * j ∧ s.2.1.length ≤ j ∧ s.2.2.length ≤ j ∧ ∀ x ∈ s.2.2, x.length ≤ 16) vs.length 0 (p2, [], []) _ rfl (Nat.zero_le _) ⟨by simp, by simp, by simp, by simp, by simp⟩ ?_ ?_
  ·rintro j ⟨p3, ss, ts⟩ hj ⟨c1, c2, c3, c4, c5⟩
   simp only at c1 c2 c3 c4 c5
   have app : ∀ (x : List Tm), x.length ≤ 16 → ∀ y ∈ ts ++ [x], y.length ≤ 16 := fun x hx y hy => (List.mem_append.1 hy).elim (c5 y) fun hy => by rw [List.mem_singleton.1 hy]; exact hx
   have l1 : ∀ x, (ss ++ [x]).length = ss.length + 1 := fun x => by simp
   have l2 : ∀ x, (ts ++ [x]).length = ts.length + 1 := fun x => by simp
   simp (contextual := true) (maxSteps := 1000000) (disch := omega) only [↓Sd, ↓So, ↓Sk, ↓den, ↓denA, Sa, Sb, Sc, Se, O1.d, O2.d, O3.d, cmI, arI, envOf, putN, ↓reduceIte, Nat.reduceLT, Nat.reduceSub, Nat.reduceAdd, Int.reduceAdd, Int.reduceEq, Int.reduceLT, Int.reduceLE, arr_pos, arr_neg, ↓wpJoin, ]
   refine D_pick1 _ _ _ hb (by omega) (by omega) fun a a0 a1 => ?_; simp (contextual := true) (maxSteps := 1000000) (disch := omega) only [↓Sd, ↓So, ↓Sk, ↓den, ↓denA, Sa, Sb, Sc, Se, O1.d, O2.d, O3.d, cmI, arI, envOf, putN, ↓reduceIte, Nat.reduceLT, Nat.reduceSub, Nat.reduceAdd, Int.reduceAdd, Int.reduceEq, Int.reduceLT, Int.reduceLE, arr_pos, arr_neg, ]
   refine ⟨fun _ => ?_, fun _ => ⟨fun _ => ⟨fun _ => ?_, fun _ => ?_⟩, fun _ => ?_⟩⟩
   ·refine D_l2Value _ _ _ _ j (by omega) hb (by omega) (by omega) hj fun x p4 hp4 hx => ?_
    simp (contextual := true) (maxSteps := 1000000) (disch := omega) only [↓Sd, ↓So, ↓Sk, ↓den, ↓denA, Sa, Sb, Sc, Se, O1.d, O2.d, O3.d, cmI, arI, envOf, putN, ↓reduceIte, Nat.reduceLT, Nat.reduceSub, Nat.reduceAdd, Int.reduceAdd, Int.reduceEq, Int.reduceLT, Int.reduceLE, arr_pos, arr_neg, ↓wpJoin, ]
    exact ⟨(_, _, _), ⟨rfl, rfl, rfl⟩, by dsimp only; omega, by dsimp only; omega, by dsimp only; rw [l1]; omega, by dsimp only; rw [l2]; omega, app x hx⟩
   ·refine D_pick1 _ _ _ hb (by omega) (by omega) fun c c0 c1 => ?_; simp (contextual := true) (maxSteps := 1000000) (disch := omega) only [↓Sd, ↓So, ↓Sk, ↓den, ↓denA, Sa, Sb, Sc, Se, O1.d, O2.d, O3.d, cmI, arI, envOf, putN, ↓reduceIte, Nat.reduceLT, Nat.reduceSub, Nat.reduceAdd, Int.reduceAdd, Int.reduceEq, Int.reduceLT, Int.reduceLE, arr_pos, arr_neg, ]
    refine ⟨fun _ => ?_, fun _ => ?_⟩
    ·refine D_l2Value _ _ _ _ j (by omega) hb (by omega) (by omega) hj fun x p4 hp4 hx => ?_
     simp (contextual := true) (maxSteps := 1000000) (disch := omega) only [↓Sd, ↓So, ↓Sk, ↓den, ↓denA, Sa, Sb, Sc, Se, O1.d, O2.d, O3.d, cmI, arI, envOf, putN, ↓reduceIte, Nat.reduceLT, Nat.reduceSub, Nat.reduceAdd, Int.reduceAdd, Int.reduceEq, Int.reduceLT, Int.reduceLE, arr_pos, arr_neg, ↓wpJoin, ]
     exact ⟨(_, _, _), ⟨rfl, rfl, rfl⟩, by dsimp only; omega, by dsimp only; omega, by dsimp only; rw [l1]; omega, by dsimp only; rw [l2]; omega, app x hx⟩
    ·exact ⟨(_, _, _), ⟨rfl, rfl, rfl⟩, by dsimp only; omega, by dsimp only; omega, by dsimp only; omega, by dsimp only; omega, c5⟩
   ·exact ⟨(_, _, _), ⟨rfl, rfl, rfl⟩, by dsimp only; omega, by dsimp only; omega, by dsimp only; omega, by dsimp only; omega, c5⟩
   ·exact ⟨(_, _, _), ⟨rfl, rfl, rfl⟩, by dsimp only; omega, by dsimp only; omega, by dsimp only; omega, by dsimp only; omega, c5⟩
  ·rintro ⟨p3, ss, ts⟩ ⟨c1, c2, c3, c4, c5⟩
   simp only at c1 c2 c3 c4 c5
   simp (contextual := true) (maxSteps := 1000000) (disch := omega) only [↓Sd, ↓So, ↓Sk, ↓den, ↓denA, Sa, Sb, Sc, Se, O1.d, O2.d, O3.d, cmI, arI, envOf, putN, ↓reduceIte, Nat.reduceLT, Nat.reduceSub, Nat.reduceAdd, Int.reduceAdd, Int.reduceEq, Int.reduceLT, Int.reduceLE, arr_pos, arr_neg, ]
   refine ⟨(_, _), ⟨rfl, rfl⟩, by dsimp only; omega, by dsimp only; omega, by dsimp only; simp [a3], fun r hr => ?_⟩
   rcases List.mem_append.1 hr with hr | hr
   ·exact a4 r hr
   ·rw [List.mem_singleton.1 hr]
    exact ⟨by dsimp only; omega, by dsimp only; omega, by dsimp only; omega, fun x hx => by have := c5 x hx; omega⟩
 ·rintro ⟨p1, l⟩ ⟨a1, a2, a3, a4⟩
  simp only at a1 a2 a3 a4
  simp (contextual := true) (maxSteps := 1000000) (disch := omega) only [↓Sd, ↓So, ↓Sk, ↓den, ↓denA, Sa, Sb, Sc, Se, O1.d, O2.d, O3.d, cmI, arI, envOf, putN, ↓reduceIte, Nat.reduceLT, Nat.reduceSub, Nat.reduceAdd, Int.reduceAdd, Int.reduceEq, Int.reduceLT, Int.reduceLE, arr_pos, arr_neg, ]
  exact h _ _ (by omega) (by omega) a4
theorem D_l2System (b : List Int) (p most : Int) (hb : Rdy b) (hp : 0 ≤ p ∧ p ≤ 500000000) {Q : List AV → Prop} (h : ∀ (s : Sy) (p' : Int), p ≤ p' ∧ p' ≤ p + 30000 → SmSy s → 1 ≤ s.1.length → s.2.length ≤ 4 → (∀ r ∈ s.2, SmR5 r) → Q [⟨L V3, s.1⟩, ⟨L TR, s.2⟩, ⟨RD, (b, p')⟩]) : mc.C f_spec_l2System [⟨RD, (b, p)⟩, ⟨I, most⟩] Q := by
 refine mc.c_of F_spec_l2System ?_
 simp (contextual := true) (maxSteps := 1000000) (disch := omega) only [↓Sd, ↓So, ↓Sk, ↓den, ↓denA, Sa, Sb, Sc, Se, O1.d, O2.d, O3.d, cmI, arI, envOf, putN, ↓reduceIte, Nat.reduceLT, Nat.reduceSub, Nat.reduceAdd, Int.reduceAdd, Int.reduceEq, Int.reduceLT, Int.reduceLE, arr_pos, arr_neg, tr_spec_l2System]
 refine D_pick1 _ _ _ hb (by omega) (by omega) fun n n0 n1 => ?_; simp (contextual := true) (maxSteps := 1000000) (disch := omega) only [↓Sd, ↓So, ↓Sk, ↓den, ↓denA, Sa, Sb, Sc, Se, O1.d, O2.d, O3.d, cmI, arI, envOf, putN, ↓reduceIte, Nat.reduceLT, Nat.reduceSub, Nat.reduceAdd, Int.reduceAdd, Int.reduceEq, Int.reduceLT, Int.reduceLE, arr_pos, arr_neg, ]
 obtain ⟨N, hN⟩ : ∃ N : Nat, n = N := ⟨n.toNat, by omega⟩
 subst hN
 refine mc.lp_inv (fun k us => ∃ (p1 m : Int) (l : List Vr), us = [⟨I, most⟩, ⟨I, m⟩, ⟨I, (k : Int)⟩, ⟨L U, b⟩, ⟨I, p1⟩, ⟨L V3, l⟩] ∧ l.length + k ≤ 1 + N ∧ p ≤ p1 ∧ p1 + 3 * k ≤ p + 1 + 3 * (1 + N)) (1 + N) _ ⟨p + 1, 1, [], by simp, by simp, by omega, by omega⟩ ?_
 rintro k us ⟨p1, m, l, rfl, i1, i2, i3⟩
 cases k with
 | zero =>
  simp (contextual := true) (maxSteps := 1000000) (disch := omega) only [↓Sd, ↓So, ↓Sk, ↓den, ↓denA, Sa, Sb, Sc, Se, O1.d, O2.d, O3.d, cmI, arI, envOf, putN, ↓reduceIte, Nat.reduceLT, Nat.reduceSub, Nat.reduceAdd, Int.reduceAdd, Int.reduceEq, Int.reduceLT, Int.reduceLE, arr_pos, arr_neg, ]
  refine mc.wp_join (fun us => ∃ (l : List Vr), us = [⟨L U, b⟩, ⟨I, p1⟩, ⟨L V3, l⟩] ∧ 1 ≤ l.length ∧ l.length ≤ 3) ?_ ?_
  ·simp (contextual := true) (maxSteps := 1000000) (disch := omega) only [↓Sd, ↓So, ↓Sk, ↓den, ↓denA, Sa, Sb, Sc, Se, O1.d, O2.d, O3.d, cmI, arI, envOf, putN, ↓reduceIte, Nat.reduceLT, Nat.reduceSub, Nat.reduceAdd, Int.reduceAdd, Int.reduceEq, Int.reduceLT, Int.reduceLE, arr_pos, arr_neg, ]
   exact ⟨fun _ => by omega, fun _ => by omega⟩
  ·rintro us ⟨l, rfl, a1, a2⟩
   simp (contextual := true) (maxSteps := 1000000) (disch := omega) only [↓Sd, ↓So, ↓Sk, ↓den, ↓denA, Sa, Sb, Sc, Se, O1.d, O2.d, O3.d, cmI, arI, envOf, putN, ↓reduceIte, Nat.reduceLT, Nat.reduceSub, Nat.reduceAdd, Int.reduceAdd, Int.reduceEq, Int.reduceLT, Int.reduceLE, arr_pos, arr_neg, ]
   refine D_num _ _ _ hb (by omega) (by simp) (by simp) fun x x0 => ?_; simp (contextual := true) (maxSteps := 1000000) (disch := omega) only [↓Sd, ↓So, ↓Sk, ↓den, ↓denA, Sa, Sb, Sc, Se, O1.d, O2.d, O3.d, cmI, arI, envOf, putN, ↓reduceIte, Nat.reduceLT, Nat.reduceSub, Nat.reduceAdd, Int.reduceAdd, Int.reduceEq, Int.reduceLT, Int.reduceLE, arr_pos, arr_neg, ]
   have hx : 0 ≤ x ∧ x ≤ 4 := by simp only [List.mem_append, List.mem_singleton] at x0; omega
   obtain ⟨y, hy⟩ : ∃ y : Nat, x = y := ⟨x.toNat, by omega⟩
   subst hy
   refine D_l2Rules _ _ _ _ hb (by omega) a1 a2 (by omega) fun rs p2 hp2 h1 h2 => ?_
   simp (contextual := true) (maxSteps := 1000000) (disch := omega) only [↓Sd, ↓So, ↓Sk, ↓den, ↓denA, Sa, Sb, Sc, Se, O1.d, O2.d, O3.d, cmI, arI, envOf, putN, ↓reduceIte, Nat.reduceLT, Nat.reduceSub, Nat.reduceAdd, Int.reduceAdd, Int.reduceEq, Int.reduceLT, Int.reduceLE, arr_pos, arr_neg, ↓wpJoin, ]
   exact h (l, rs) _ (by omega) ⟨a2, by dsimp only; omega, fun r hr => (h2 r hr).sm⟩ a1 (by dsimp only; omega) h2
 | succ k =>
  simp (contextual := true) (maxSteps := 1000000) (disch := omega) only [↓Sd, ↓So, ↓Sk, ↓den, ↓denA, Sa, Sb, Sc, Se, O1.d, O2.d, O3.d, cmI, arI, envOf, putN, ↓reduceIte, Nat.reduceLT, Nat.reduceSub, Nat.reduceAdd, Int.reduceAdd, Int.reduceEq, Int.reduceLT, Int.reduceLE, arr_pos, arr_neg, ]
  refine mc.wp_join (fun us => ∃ (p2 m : Int) (l : List Vr), us = [⟨I, most⟩, ⟨I, m⟩, ⟨I, (k : Int) + 1⟩, ⟨L U, b⟩, ⟨I, p2⟩, ⟨L V3, l⟩] ∧ l.length + k ≤ 1 + N ∧ p ≤ p2 ∧ p2 + 3 * k ≤ p + 1 + 3 * (1 + N)) ?_ ?_
  ·simp (contextual := true) (maxSteps := 1000000) (disch := omega) only [↓Sd, ↓So, ↓Sk, ↓den, ↓denA, Sa, Sb, Sc, Se, O1.d, O2.d, O3.d, cmI, arI, envOf, putN, ↓reduceIte, Nat.reduceLT, Nat.reduceSub, Nat.reduceAdd, Int.reduceAdd, Int.reduceEq, Int.reduceLT, Int.reduceLE, arr_pos, arr_neg, ]
   refine D_num _ _ _ hb (by omega) (by simp) (by simp) fun x x0 => ?_; simp (contextual := true) (maxSteps := 1000000) (disch := omega) only [↓Sd, ↓So, ↓Sk, ↓den, ↓denA, Sa, Sb, Sc, Se, O1.d, O2.d, O3.d, cmI, arI, envOf, putN, ↓reduceIte, Nat.reduceLT, Nat.reduceSub, Nat.reduceAdd, Int.reduceAdd, Int.reduceEq, Int.reduceLT, Int.reduceLE, arr_pos, arr_neg, ]
   have hx : 2 ≤ x ∧ x ≤ 5 := by simp only [List.mem_append, List.mem_singleton] at x0; omega
   refine ⟨fun _ => ?_, fun _ => ⟨_, _, _, ⟨rfl, rfl, rfl⟩, by omega, by omega, by omega⟩⟩
   refine D_num _ _ _ hb (by omega) (by simp) (by simp) fun lo lo0 => ?_; simp (contextual := true) (maxSteps := 1000000) (disch := omega) only [↓Sd, ↓So, ↓Sk, ↓den, ↓denA, Sa, Sb, Sc, Se, O1.d, O2.d, O3.d, cmI, arI, envOf, putN, ↓reduceIte, Nat.reduceLT, Nat.reduceSub, Nat.reduceAdd, Int.reduceAdd, Int.reduceEq, Int.reduceLT, Int.reduceLE, arr_pos, arr_neg, ]
   refine D_pick1 _ _ _ hb (by omega) (by omega) fun d d0 d1 => ?_; simp (contextual := true) (maxSteps := 1000000) (disch := omega) only [↓Sd, ↓So, ↓Sk, ↓den, ↓denA, Sa, Sb, Sc, Se, O1.d, O2.d, O3.d, cmI, arI, envOf, putN, ↓reduceIte, Nat.reduceLT, Nat.reduceSub, Nat.reduceAdd, Int.reduceAdd, Int.reduceEq, Int.reduceLT, Int.reduceLE, arr_pos, arr_neg, ]
   simp (contextual := true) (maxSteps := 1000000) (disch := omega) only [↓Sd, ↓So, ↓Sk, ↓den, ↓denA, Sa, Sb, Sc, Se, O1.d, O2.d, O3.d, cmI, arI, envOf, putN, ↓reduceIte, Nat.reduceLT, Nat.reduceSub, Nat.reduceAdd, Int.reduceAdd, Int.reduceEq, Int.reduceLT, Int.reduceLE, arr_pos, arr_neg, ↓wpJoin, ]
   exact ⟨_, _, _, ⟨rfl, rfl, rfl⟩, by simp only [List.length_append, List.length_singleton]; omega, by omega, by omega⟩
  ·rintro us ⟨p2, m, l, rfl, a1, a2, a3⟩
   simp (contextual := true) (maxSteps := 1000000) (disch := omega) only [↓Sd, ↓So, ↓Sk, ↓den, ↓denA, Sa, Sb, Sc, Se, O1.d, O2.d, O3.d, cmI, arI, envOf, putN, ↓reduceIte, Nat.reduceLT, Nat.reduceSub, Nat.reduceAdd, Int.reduceAdd, Int.reduceEq, Int.reduceLT, Int.reduceLE, arr_pos, arr_neg, ]
   exact ⟨k, by omega, p2, m, l, ⟨rfl, rfl, rfl, rfl⟩, a1, a2, a3⟩
theorem D_l2Any (b : List Int) (p most : Int) (hb : Rdy b) (hp : 0 ≤ p ∧ p ≤ 400000000) {Q : List AV → Prop} (h : ∀ (s : Sy) (p' : Int), p ≤ p' ∧ p' ≤ p + 31000 → SmSy s → Q [⟨L V3, s.1⟩, ⟨L TR, s.2⟩, ⟨RD, (b, p')⟩]) : mc.C f_spec_l2Any [⟨RD, (b, p)⟩, ⟨I, most⟩] Q := by
 refine mc.c_of F_spec_l2Any ?_
 simp (contextual := true) (maxSteps := 1000000) (disch := omega) only [↓Sd, ↓So, ↓Sk, ↓den, ↓denA, Sa, Sb, Sc, Se, O1.d, O2.d, O3.d, cmI, arI, envOf, putN, ↓reduceIte, Nat.reduceLT, Nat.reduceSub, Nat.reduceAdd, Int.reduceAdd, Int.reduceEq, Int.reduceLT, Int.reduceLE, arr_pos, arr_neg, tr_spec_l2Any]
 refine D_l2System _ _ _ hb (by omega) fun s p1 hp1 hs h1 h2 h5 => ?_
 simp (contextual := true) (maxSteps := 1000000) (disch := omega) only [↓Sd, ↓So, ↓Sk, ↓den, ↓denA, Sa, Sb, Sc, Se, O1.d, O2.d, O3.d, cmI, arI, envOf, putN, ↓reduceIte, Nat.reduceLT, Nat.reduceSub, Nat.reduceAdd, Int.reduceAdd, Int.reduceEq, Int.reduceLT, Int.reduceLE, arr_pos, arr_neg, ↓wpJoin, C_spec_l2Const]
 refine D_pick1 _ _ _ hb (by omega) (by omega) fun a a0 a1 => ?_; simp (contextual := true) (maxSteps := 1000000) (disch := omega) only [↓Sd, ↓So, ↓Sk, ↓den, ↓denA, Sa, Sb, Sc, Se, O1.d, O2.d, O3.d, cmI, arI, envOf, putN, ↓reduceIte, Nat.reduceLT, Nat.reduceSub, Nat.reduceAdd, Int.reduceAdd, Int.reduceEq, Int.reduceLT, Int.reduceLE, arr_pos, arr_neg, ]
 refine ⟨fun _ => ?_, fun _ => h _ _ (by omega) hs⟩
 have hV : ∀ (l : List Vr) (p' : Int), l.length ≤ 3 → p ≤ p' ∧ p' ≤ p + 31000 → Q [⟨L V3, l⟩, ⟨L TR, s.2⟩, ⟨RD, (b, p')⟩] := fun l p' hl hp' => h (l, s.2) p' hp' ⟨hl, hs.2.1, hs.2.2⟩
 have hR : ∀ (r : Ru) (p' : Int), SmRu r → p ≤ p' ∧ p' ≤ p + 31000 → Q [⟨L V3, s.1⟩, ⟨L TR, s.2.set 0 r⟩, ⟨RD, (b, p')⟩] := fun r p' hr hp' => h (s.1, s.2.set 0 r) p' hp' ⟨hs.1, by rw [List.length_set]; exact hs.2.1, fun x hx => (List.mem_or_eq_of_mem_set hx).elim (hs.2.2 x) fun e => by rw [e]; exact hr⟩
 have hS1 : (s.1.set 0 (s.1.getD 0 (0, 0, 0))).length ≤ 3 := by rw [List.length_set]; exact hs.1
 have hsl : ∀ x : Vr, (s.1.set 0 x).length ≤ 3 := fun x => by rw [List.length_set]; exact hs.1
 have hb0 : SmR5 (s.2.getD 0 ([], [], [])) := by
  by_cases g : 0 < s.2.length
  ·exact h5 _ (getD_mem g)
  ·rw [List.getD_eq_getElem?_getD, List.getElem?_eq_none (by omega)]; exact ⟨by simp, by simp, by simp, by simp⟩
 refine D_pick1 _ _ _ hb (by omega) (by omega) fun c c0 c1 => ?_; simp (contextual := true) (maxSteps := 1000000) (disch := omega) only [↓Sd, ↓So, ↓Sk, ↓den, ↓denA, Sa, Sb, Sc, Se, O1.d, O2.d, O3.d, cmI, arI, envOf, putN, ↓reduceIte, Nat.reduceLT, Nat.reduceSub, Nat.reduceAdd, Int.reduceAdd, Int.reduceEq, Int.reduceLT, Int.reduceLE, arr_pos, arr_neg, ]
 have q1 := hb0.2.1
 have q2 := hb0.2.2.1
 simp (contextual := true) (maxSteps := 1000000) (disch := omega) only [↓Sd, ↓So, ↓Sk, ↓den, ↓denA, Sa, Sb, Sc, Se, O1.d, O2.d, O3.d, cmI, arI, envOf, putN, ↓reduceIte, Nat.reduceLT, Nat.reduceSub, Nat.reduceAdd, Int.reduceAdd, Int.reduceEq, Int.reduceLT, Int.reduceLE, arr_pos, arr_neg, ↓wpJoin, C_spec_l2Const]
 repeat' first | apply And.intro | intro _
 all_goals first
  | exact hV _ _ (hsl _) (by omega)
  | exact hV _ _ (by simp) (by omega)
  | exact hV _ _ hs.1 (by omega)
  | exact hR _ _ ⟨by simp, hb0.sm.2.1, hb0.sm.2.2.1, hb0.sm.2.2.2⟩ (by omega)
  | exact hR _ _ ⟨hb0.sm.1, by simp only [List.length_append, List.length_singleton]; omega, hb0.sm.2.2.1, hb0.sm.2.2.2⟩ (by omega)
  | exact hR _ _ ⟨hb0.sm.1, hb0.sm.2.1, by simp only [List.length_append, List.length_singleton]; omega, fun x hx => (List.mem_append.1 hx).elim (hb0.sm.2.2.2 x) fun hx => by rw [List.mem_singleton.1 hx]; simp⟩ (by omega)
  | skip
 refine D_num _ _ _ hb (by omega) (by simp) (by simp) fun x x0 => ?_; simp (contextual := true) (maxSteps := 1000000) (disch := omega) only [↓Sd, ↓So, ↓Sk, ↓den, ↓denA, Sa, Sb, Sc, Se, O1.d, O2.d, O3.d, cmI, arI, envOf, putN, ↓reduceIte, Nat.reduceLT, Nat.reduceSub, Nat.reduceAdd, Int.reduceAdd, Int.reduceEq, Int.reduceLT, Int.reduceLE, arr_pos, arr_neg, ]
 simp (contextual := true) (maxSteps := 1000000) (disch := omega) only [↓Sd, ↓So, ↓Sk, ↓den, ↓denA, Sa, Sb, Sc, Se, O1.d, O2.d, O3.d, cmI, arI, envOf, putN, ↓reduceIte, Nat.reduceLT, Nat.reduceSub, Nat.reduceAdd, Int.reduceAdd, Int.reduceEq, Int.reduceLT, Int.reduceLE, arr_pos, arr_neg, ↓wpJoin, ]
 exact hV _ _ (hsl _) (by omega)
theorem C_laws_wcHas (l : List Int) (x : Int) (hl : l.length ≤ 1048576) (Q : List AV → Prop) : mc.C f_laws_wcHas [⟨L I, l⟩, ⟨I, x⟩] Q = Q [⟨B, dB (x ∈ l)⟩] := by
 refine Mc.Ends.c (mc.ends F_laws_wcHas ?_)
 generalize hK : dB (x ∈ l) = K
 simp (contextual := true) (maxSteps := 1000000) (disch := omega) only [↓Sd, ↓So, ↓Sk, ↓den, ↓denA, Sa, Sb, Sc, Se, O1.d, O2.d, O3.d, cmI, arI, envOf, putN, ↓reduceIte, Nat.reduceLT, Nat.reduceSub, Nat.reduceAdd, Int.reduceAdd, Int.reduceEq, Int.reduceLT, Int.reduceLE, arr_pos, arr_neg, tr_laws_wcHas]
 refine lp_all (fun i => [⟨I, x⟩, ⟨L I, l⟩, ⟨I, (l.length : Int)⟩, ⟨I, (i : Int)⟩]) (fun i => ¬ l.getD i 0 = x) l.length _ rfl ?_ ?_
 ·intro i hi
  simp (contextual := true) (maxSteps := 1000000) (disch := omega) only [↓Sd, ↓So, ↓Sk, ↓den, ↓denA, Sa, Sb, Sc, Se, O1.d, O2.d, O3.d, cmI, arI, envOf, putN, ↓reduceIte, Nat.reduceLT, Nat.reduceSub, Nat.reduceAdd, Int.reduceAdd, Int.reduceEq, Int.reduceLT, Int.reduceLE, arr_pos, arr_neg, ]
  intro g
  rw [← hK, dB_t]
  rw [← g]; exact getD_mem hi
 ·intro h
  simp (contextual := true) (maxSteps := 1000000) (disch := omega) only [↓Sd, ↓So, ↓Sk, ↓den, ↓denA, Sa, Sb, Sc, Se, O1.d, O2.d, O3.d, cmI, arI, envOf, putN, ↓reduceIte, Nat.reduceLT, Nat.reduceSub, Nat.reduceAdd, Int.reduceAdd, Int.reduceEq, Int.reduceLT, Int.reduceLE, arr_pos, arr_neg, ]
  rw [← hK, dB_f]
  intro hx
  exact all_get (d := 0) (p := fun y => ¬ y = x) h x hx rfl
def hw1 (s : Sy) (l : List Tm) (X : List Int) (x : Int) : Prop := holdsN s l x.toNat = true → ∀ y ∈ (steps s).getD x.toNat [], y ∈ X → holdsN s l y.toNat = true
def hw (s : Sy) (l : List Tm) (X : List Int) : Prop := ∀ x ∈ X, hw1 s l X x
def fst1 (p : Nat → Bool) : Nat → Int
 | 0 => -1
 | n + 1 => if 0 ≤ fst1 p n then fst1 p n else if p n = true then (n : Int) else -1
def rbt (s : Sy) (a b : List Int) : Int := fst1 (fun r => decide (useM s.1 (s.2.getD r ([], [], [])) a ≠ [] ∧ useM s.1 (s.2.getD r ([], [], [])) a = b)) s.2.length
def IsPrd (T : List (List Int)) (f : Nat → Int) (n k a : Nat) : Prop := a < n ∧ f a + 1 = f k ∧ (k : Int) ∈ T.getD a [] ∧ ∀ b, b < a → ¬ (f b + 1 = f k ∧ (k : Int) ∈ T.getD b [])
def Chain (T : List (List Int)) (f : Nat → Int) (n k D : Nat) (ch : Nat → Nat) : Prop := ch D = k ∧ (∀ e, e < D → IsPrd T f n (ch (e + 1)) (ch e)) ∧ ∀ e, e ≤ D → ch e < n ∧ f (ch e) = e
theorem Chain.few {T : List (List Int)} {f : Nat → Int} {n k D : Nat} {ch : Nat → Nat} (h : Chain T f n k D ch) : D < n := by
 have key : ∀ e, e ≤ D → e < (upTo (fun k => decide (0 ≤ f k ∧ f k ≤ (e : Int))) n).length := by
  intro e
  induction e with
  | zero =>
   intro _
   have h1 := h.2.2 0 (by omega)
   exact upTo_pos.2 ⟨ch 0, h1.1, decide_eq_true (by omega)⟩
  | succ e ih =>
   intro he
   have h1 := ih (by omega)
   have h2 := h.2.2 (e + 1) he
   have h3 := upTo_mono (p := fun k => decide (0 ≤ f k ∧ f k ≤ (e : Int))) (q := fun k => decide (0 ≤ f k ∧ f k ≤ ((e + 1 : Nat) : Int))) (n := n) fun k _ hk => decide_eq_true (by have := of_decide_eq_true hk; omega)
   by_cases g : (upTo (fun k => decide (0 ≤ f k ∧ f k ≤ ((e + 1 : Nat) : Int))) n).length ≤ (upTo (fun k => decide (0 ≤ f k ∧ f k ≤ (e : Int))) n).length
   ·have h4 := h3.2 g (ch (e + 1)) h2.1 (decide_eq_true (by omega))
    have h5 := of_decide_eq_true h4
    omega
   ·omega
 have h1 := key D (Nat.le_refl _)
 have h2 := @upTo_len (fun k => decide (0 ≤ f k ∧ f k ≤ (D : Int))) n
 omega
theorem C_slices_Equal (a b : List Int) (ha : a.length ≤ 1048576) (hb : b.length ≤ 1048576) (Q : List AV → Prop) : mc.C f_slices_Equal_Sint_int [⟨L I, a⟩, ⟨L I, b⟩] Q = Q [⟨B, decide (a = b)⟩] := by
 refine Mc.Ends.c (mc.ends F_slices_Equal_Sint_int ?_)
 generalize hK : decide (a = b) = K
 simp (contextual := true) (maxSteps := 1000000) (disch := omega) only [↓Sd, ↓So, ↓Sk, ↓den, ↓denA, Sa, Sb, Sc, Se, O1.d, O2.d, O3.d, cmI, arI, envOf, putN, ↓reduceIte, Nat.reduceLT, Nat.reduceSub, Nat.reduceAdd, Int.reduceAdd, Int.reduceEq, Int.reduceLT, Int.reduceLE, arr_pos, arr_neg, tr_slices_Equal_Sint_int]
 refine ⟨fun g => ?_, fun g => ?_⟩
 ·rw [← hK, decide_eq_false]; intro h; rw [h] at g; exact g rfl
 ·have hl : a.length = b.length := by omega
  refine lp_all (fun i => [⟨L I, a⟩, ⟨L I, b⟩, ⟨I, (a.length : Int)⟩, ⟨I, (i : Int)⟩]) (fun i => a.getD i 0 = b.getD i 0) a.length _ ?_ ?_ ?_
  ·rw [hl]; rfl
  ·intro i hi
   simp (contextual := true) (maxSteps := 1000000) (disch := omega) only [↓Sd, ↓So, ↓Sk, ↓den, ↓denA, Sa, Sb, Sc, Se, O1.d, O2.d, O3.d, cmI, arI, envOf, putN, ↓reduceIte, Nat.reduceLT, Nat.reduceSub, Nat.reduceAdd, Int.reduceAdd, Int.reduceEq, Int.reduceLT, Int.reduceLE, arr_pos, arr_neg, ]
   intro h
   rw [← hK, decide_eq_false]
   intro h2; rw [h2] at h; exact h rfl
  ·intro h
   simp (contextual := true) (maxSteps := 1000000) (disch := omega) only [↓Sd, ↓So, ↓Sk, ↓den, ↓denA, Sa, Sb, Sc, Se, O1.d, O2.d, O3.d, cmI, arI, envOf, putN, ↓reduceIte, Nat.reduceLT, Nat.reduceSub, Nat.reduceAdd, Int.reduceAdd, Int.reduceEq, Int.reduceLT, Int.reduceLE, arr_pos, arr_neg, ]
   rw [← hK, decide_eq_true]
   refine List.ext_getElem hl fun i h1 h2 => ?_
   have := h i h1
   rwa [getD_lt h1, getD_lt h2] at this
structure IsRun (s : Sy) (D : Nat) (f : Nat → List Int) : Prop where
 few : D < 500
 first : f 0 = fst0 s.1
 inr : ∀ e, e ≤ D → inR s.1 (f e)
 rule : ∀ e, e < D → 0 ≤ rbt s (f e) (f (e + 1))
def rules (s : Sy) (f : Nat → List Int) (D : Nat) : List Int := tab (fun e => rbt s (f e) (f (e + 1))) D
theorem IsRun.len {s : Sy} {D : Nat} {f : Nat → List Int} (hv : valid s) (h : IsRun s D f) {e : Nat} (he : e ≤ D) : (f e).length ≤ 1048576 := by
 have := (h.inr e he).1
 have := hv.1.2
 omega
def SmSS (l : List (List Int)) : Prop := l.length ≤ 4000 ∧ ∀ x ∈ l, x.length ≤ 4000
theorem SmSS.few {l : List (List Int)} (h : SmSS l) : l.length ≤ 1048576 ∧ ∀ x ∈ l, x.length ≤ 1048576 := ⟨by have := h.1; omega, fun x hx => by have := h.2 x hx; omega⟩
theorem C_impl_SizeOf (s : Sy) (hs : FewSy s) (h : valid s) (Q : List AV → Prop) : mc.C f_impl_SizeOf [⟨L V3, s.1⟩, ⟨L TR, s.2⟩] Q = Q [⟨I, sz s.1⟩] := by
 refine Mc.Ends.c (mc.ends F_impl_SizeOf ?_)
 simp (contextual := true) (maxSteps := 1000000) (disch := omega) only [↓Sd, ↓So, ↓Sk, ↓den, ↓denA, Sa, Sb, Sc, Se, O1.d, O2.d, O3.d, cmI, arI, envOf, putN, ↓reduceIte, Nat.reduceLT, Nat.reduceSub, Nat.reduceAdd, Int.reduceAdd, Int.reduceEq, Int.reduceLT, Int.reduceLE, arr_pos, arr_neg, tr_impl_SizeOf, C_impl_SystemValid s hs, h, C_impl_size s.1 h.1.2 h.2.2.1]
theorem C_impl_StateAt (s : Sy) (k : Nat) (hs : FewSy s) (h : valid s) (hk : k < szn s.1) (Q : List AV → Prop) : mc.C f_impl_StateAt [⟨L V3, s.1⟩, ⟨L TR, s.2⟩, ⟨I, (k : Int)⟩] Q = Q [⟨L I, stN s k⟩] := by
 refine Mc.Ends.c (mc.ends F_impl_StateAt ?_)
 have hz := szn_eq h
 have hz1 := hz.1
 have hst : stAt s.1 (k : Int) = stN s k := rfl
 simp (contextual := true) (maxSteps := 1000000) (disch := omega) only [↓Sd, ↓So, ↓Sk, ↓den, ↓denA, Sa, Sb, Sc, Se, O1.d, O2.d, O3.d, cmI, arI, envOf, putN, ↓reduceIte, Nat.reduceLT, Nat.reduceSub, Nat.reduceAdd, Int.reduceAdd, Int.reduceEq, Int.reduceLT, Int.reduceLE, arr_pos, arr_neg, tr_impl_StateAt, C_impl_SizeOf s hs h, ← hz1, C_impl_in, C_impl_stateAt s (k : Int) h.1.2 h.2.2.1 (by omega), hst]
 done
theorem C_slices_Contains_int (l : List Int) (x : Int) (hl : l.length ≤ 1048576) (Q : List AV → Prop) : mc.C f_slices_Contains_Sint_int [⟨L I, l⟩, ⟨I, x⟩] Q = Q [⟨B, dB (x ∈ l)⟩] := by
 have hI : ∀ {Q : List AV → Prop}, (∀ j : Int, (0 ≤ j ↔ x ∈ l) → Q [⟨I, j⟩]) → mc.C f_slices_Index_Sint_int [⟨L I, l⟩, ⟨I, x⟩] Q := by
  intro Q hQ
  refine mc.c_of F_slices_Index_Sint_int ?_
  simp (contextual := true) (maxSteps := 1000000) (disch := omega) only [↓Sd, ↓So, ↓Sk, ↓den, ↓denA, Sa, Sb, Sc, Se, O1.d, O2.d, O3.d, cmI, arI, envOf, putN, ↓reduceIte, Nat.reduceLT, Nat.reduceSub, Nat.reduceAdd, Int.reduceAdd, Int.reduceEq, Int.reduceLT, Int.reduceLE, arr_pos, arr_neg, tr_slices_Index_Sint_int]
  refine lp_all (fun i => [⟨L I, l⟩, ⟨I, x⟩, ⟨I, (l.length : Int)⟩, ⟨I, (i : Int)⟩]) (fun i => ¬ x = l.getD i 0) l.length _ rfl ?_ ?_
  ·intro i hi
   simp (contextual := true) (maxSteps := 1000000) (disch := omega) only [↓Sd, ↓So, ↓Sk, ↓den, ↓denA, Sa, Sb, Sc, Se, O1.d, O2.d, O3.d, cmI, arI, envOf, putN, ↓reduceIte, Nat.reduceLT, Nat.reduceSub, Nat.reduceAdd, Int.reduceAdd, Int.reduceEq, Int.reduceLT, Int.reduceLE, arr_pos, arr_neg, ]
   intro h
   refine hQ _ ⟨fun _ => ?_, fun _ => by omega⟩
   rw [h]; exact getD_mem hi
  ·intro h
   simp (contextual := true) (maxSteps := 1000000) (disch := omega) only [↓Sd, ↓So, ↓Sk, ↓den, ↓denA, Sa, Sb, Sc, Se, O1.d, O2.d, O3.d, cmI, arI, envOf, putN, ↓reduceIte, Nat.reduceLT, Nat.reduceSub, Nat.reduceAdd, Int.reduceAdd, Int.reduceEq, Int.reduceLT, Int.reduceLE, arr_pos, arr_neg, ]
   refine hQ _ ⟨fun h => by omega, fun hx => ?_⟩
   obtain ⟨i, hi, rfl⟩ := List.getElem_of_mem hx
   exact absurd (getD_lt hi).symm (h i hi)
 refine Mc.Ends.c (mc.ends F_slices_Contains_Sint_int ?_)
 simp (contextual := true) (maxSteps := 1000000) (disch := omega) only [↓Sd, ↓So, ↓Sk, ↓den, ↓denA, Sa, Sb, Sc, Se, O1.d, O2.d, O3.d, cmI, arI, envOf, putN, ↓reduceIte, Nat.reduceLT, Nat.reduceSub, Nat.reduceAdd, Int.reduceAdd, Int.reduceEq, Int.reduceLT, Int.reduceLE, arr_pos, arr_neg, tr_slices_Contains_Sint_int]
 refine hI fun j hj => ?_
 simp (contextual := true) (maxSteps := 1000000) (disch := omega) only [↓Sd, ↓So, ↓Sk, ↓den, ↓denA, Sa, Sb, Sc, Se, O1.d, O2.d, O3.d, cmI, arI, envOf, putN, ↓reduceIte, Nat.reduceLT, Nat.reduceSub, Nat.reduceAdd, Int.reduceAdd, Int.reduceEq, Int.reduceLT, Int.reduceLE, arr_pos, arr_neg, ]
 rw [← dB_eq]
 exact dB_congr hj
def tAt (l : List Tm) (i : Nat) : Tm := l.getD i (0, 0, 0, 0)
structure TmsOk (l : List Tm) (vars : Int) : Prop where
 vb : 0 ≤ vars ∧ vars ≤ 5
 len : 1 ≤ l.length ∧ l.length ≤ 40
 at' : ∀ i, i < l.length → (tAt l i).1 = 0 ∨ ((tAt l i).1 = 1 ∧ 0 ≤ (tAt l i).2.1 ∧ (tAt l i).2.1 < vars) ∨ (2 ≤ (tAt l i).1 ∧ (0 ≤ (tAt l i).2.2.1 ∧ (tAt l i).2.2.1 < i) ∧ 0 ≤ (tAt l i).2.2.2 ∧ (tAt l i).2.2.2 < i)
theorem kds_at {vars : Int} : ∀ {l : List Tm} {ks o : List Int}, kds vars l ks = some o → ∀ i, i < l.length → ∃ ks', ks'.length = ks.length + i ∧ kd (tAt l i) ks' vars ≠ 0
 | [], ks, o, _, i, hi => absurd hi (Nat.not_lt_zero _)
 | t :: l, ks, o, h, i, hi => by
  simp only [kds] at h
  split at h
  ·cases h
  ·rename_i h0
   cases i with
   | zero => exact ⟨ks, rfl, h0⟩
   | succ i =>
    obtain ⟨ks', h1, h2⟩ := kds_at h i (by simpa using hi)
    exact ⟨ks', by rw [h1]; simp only [List.length_append, List.length_cons, List.length_nil]; omega, h2⟩
theorem tms_ok {l : List Tm} {vars : Int} (h : kf l vars ≠ 0) : TmsOk l vars := by
 obtain ⟨o, h1, h2, -⟩ := kf_some h
 refine ⟨?_, h2, fun i hi => ?_⟩
 ·unfold kf kdsOf at h
  split at h
  ·rename_i h3; exact h3.1
  ·exact absurd rfl h
 ·obtain ⟨ks, h3, h4⟩ := kds_at h1 i hi
  simp only [List.length_nil, Nat.zero_add] at h3
  rcases kd_ne h4 with h5 | h5 | h5
  ·exact .inl h5.1
  ·exact .inr (.inl h5)
  ·rw [h3] at h5; exact .inr (.inr ⟨h5.1.1, h5.2.1, h5.2.2.1⟩)
inductive Nd (l : List Tm) : Nat → Prop
 | top : Nd l (l.length - 1)
 | arg {m j : Nat} : Nd l m → m < l.length → 2 ≤ (tAt l m).1 → (j = (tAt l m).2.2.1.toNat ∨ j = (tAt l m).2.2.2.toNat) → Nd l j
def NdI (l : List Tm) (i : Nat) (p : Nat → Bool) : Prop := ∀ j, j < l.length → (p j = true ↔ (j = l.length - 1 ∨ ∃ m, i ≤ m ∧ m < l.length ∧ Nd l m ∧ 2 ≤ (tAt l m).1 ∧ (j = (tAt l m).2.2.1.toNat ∨ j = (tAt l m).2.2.2.toNat)))
theorem NdI.at' {l : List Tm} {vars : Int} (ho : TmsOk l vars) {m : Nat} {p : Nat → Bool} (h : NdI l (m + 1) p) (hm : m < l.length) : p m = true ↔ Nd l m := by
 rw [h m hm]
 constructor
 ·rintro (h1 | ⟨a, h1, h2, h3, h4, h5⟩)
  ·rw [h1]; exact .top
  ·exact .arg h3 h2 h4 h5
 ·intro h1
  cases h1 with
  | top => exact .inl rfl
  | @arg a _ h2 h3 h4 h5 =>
   refine .inr ⟨a, ?_, h3, h2, h4, h5⟩
   rcases ho.at' a h3 with h6 | h6 | h6
   ·omega
   ·omega
   ·omega
theorem NdI.step {l : List Tm} {vars : Int} (ho : TmsOk l vars) {m : Nat} {p : Nat → Bool} (h : NdI l (m + 1) p) (hm : m < l.length) (hp : p m = true) (h2 : 2 ≤ (tAt l m).1) {q : Nat → Bool} (hq : ∀ j, q j = true ↔ (j = (tAt l m).2.2.2.toNat ∨ j = (tAt l m).2.2.1.toNat ∨ p j = true)) : NdI l m q := by
 intro j hj
 rw [hq, h j hj]
 have hN := (h.at' ho hm).1 hp
 constructor
 ·rintro (h1 | h1 | h1 | ⟨a, h1, h3⟩)
  ·exact .inr ⟨m, Nat.le_refl _, hm, hN, h2, .inr h1⟩
  ·exact .inr ⟨m, Nat.le_refl _, hm, hN, h2, .inl h1⟩
  ·exact .inl h1
  ·exact .inr ⟨a, by omega, h3⟩
 ·rintro (h1 | ⟨a, h1, h3, h4, h5, h6⟩)
  ·exact .inr (.inr (.inl h1))
  ·by_cases e : a = m
   ·subst e
    rcases h6 with h6 | h6
    ·exact .inr (.inl h6)
    ·exact .inl h6
   ·exact .inr (.inr (.inr ⟨a, by omega, h3, h4, h5, h6⟩))
theorem NdI.skip {l : List Tm} {vars : Int} (ho : TmsOk l vars) {m : Nat} {p : Nat → Bool} (h : NdI l (m + 1) p) (hm : m < l.length) (hp : p m = false ∨ (tAt l m).1 < 2) : NdI l m p := by
 intro j hj
 rw [h j hj]
 constructor
 ·rintro (h1 | ⟨a, h1, h3⟩)
  ·exact .inl h1
  ·exact .inr ⟨a, by omega, h3⟩
 ·rintro (h1 | ⟨a, h1, h3, h4, h5, h6⟩)
  ·exact .inl h1
  ·by_cases e : a = m
   ·subst e
    rcases hp with hp | hp
    ·have := (h.at' ho hm).2 h4
     rw [this] at hp; cases hp
    ·omega
   ·exact .inr ⟨a, by omega, h3, h4, h5, h6⟩
theorem NdI.end' {l : List Tm} {vars : Int} (ho : TmsOk l vars) {p : Nat → Bool} (h : NdI l 0 p) {j : Nat} (hj : j < l.length) : p j = true ↔ Nd l j := by
 rw [h j hj]
 constructor
 ·rintro (h1 | ⟨a, h1, h2, h3, h4, h5⟩)
  ·rw [h1]; exact .top
  ·exact .arg h3 h2 h4 h5
 ·intro h1
  cases h1 with
  | top => exact .inl rfl
  | @arg a _ h2 h3 h4 h5 => exact .inr ⟨a, Nat.zero_le _, h3, h2, h4, h5⟩
theorem NdI.start {l : List Tm} : NdI l l.length (fun j => decide (j = l.length - 1)) := by
 intro j hj
 simp only [decide_eq_true_eq]
 constructor
 ·intro h; exact .inl h
 ·rintro (h | ⟨a, h1, h2, _⟩)
  ·exact h
  ·omega
def Us (l : List Tm) (x : Int) : Prop := ∃ i, i < l.length ∧ Nd l i ∧ (tAt l i).1 = 1 ∧ (tAt l i).2.1 = x
noncomputable def usL (l : List Tm) (vars : Nat) : List Int := upTo (fun k => dB (Us l k)) vars
theorem usL_mem {l : List Tm} {vars : Nat} (ho : TmsOk l vars) {x : Int} : x ∈ usL l vars ↔ Us l x := by
 rw [usL, upTo_mem]
 constructor
 ·rintro ⟨k, h1, rfl, h2⟩; exact dB_iff.1 h2
 ·intro h
  obtain ⟨i, h1, h2, h3, h4⟩ := h
  rcases ho.at' i h1 with h5 | h5 | h5
  ·omega
  ·exact ⟨x.toNat, by omega, by omega, dB_t ⟨i, h1, h2, h3, by omega⟩⟩
  ·omega
def UsI (l : List Tm) (i : Nat) (u : Nat → Bool) : Prop := ∀ x : Nat, u x = true ↔ ∃ m, i ≤ m ∧ m < l.length ∧ Nd l m ∧ (tAt l m).1 = 1 ∧ (tAt l m).2.1 = x
theorem C_impl_usedBy (l : List Tm) (vars : Nat) (ho : TmsOk l vars) (Q : List AV → Prop) : mc.C f_impl_usedBy [⟨L T4, l⟩, ⟨I, (vars : Int)⟩] Q = Q [⟨L I, usL l vars⟩] := by
 refine Mc.Ends.c (mc.ends F_impl_usedBy ?_)
 have hl := ho.len
 have hv := ho.vb
 have hr1 : (List.replicate l.length false).set (l.length - 1) true = tab (fun j => decide (j = l.length - 1)) l.length := by
  rw [rep_tab, tab_set']
  refine tab_congr fun k hk => ?_
  by_cases e : k = l.length - 1 <;> simp [e]
 have hr2 : List.replicate vars false = tab (fun _ => false) vars := rep_tab
 simp (contextual := true) (maxSteps := 1000000) (disch := omega) only [↓Sd, ↓So, ↓Sk, ↓den, ↓denA, Sa, Sb, Sc, Se, O1.d, O2.d, O3.d, cmI, arI, envOf, putN, ↓reduceIte, Nat.reduceLT, Nat.reduceSub, Nat.reduceAdd, Int.reduceAdd, Int.reduceEq, Int.reduceLT, Int.reduceLE, arr_pos, arr_neg, tr_impl_usedBy, List.length_replicate, hr1, hr2]
 refine mc.lp_down ((Nat → Bool) × (Nat → Bool)) (fun i p => [⟨L T4, l⟩, ⟨I, (i : Int) - 1⟩, ⟨L B, tab p.1 l.length⟩, ⟨L B, tab p.2 vars⟩]) (fun i p => i ≤ l.length ∧ NdI l i p.1 ∧ UsI l i p.2) l.length (_, _) _ rfl ⟨Nat.le_refl _, NdI.start, fun x => ⟨fun h => by simp at h, fun ⟨m, h1, h2, _⟩ => by omega⟩⟩ ?_ ?_
 ·rintro i ⟨p, u⟩ ⟨h1, h2, h3⟩
  simp only at h2 h3
  have hi : i < l.length := by omega
  obtain ⟨t, ht⟩ : ∃ t, l.getD i (0, 0, 0, 0) = t := ⟨_, rfl⟩
  have hat := ho.at' i hi
  have htt : tAt l i = t := ht
  rw [htt] at hat
  have hsk : (p i = false ∨ t.1 < 2) → ¬ (p i = true ∧ t.1 = 1) → i ≤ l.length ∧ NdI l i p ∧ UsI l i u := fun g1 g2 => by
   refine ⟨by omega, h2.skip ho hi (by rw [htt]; exact g1), fun x => (h3 x).trans ⟨fun ⟨m, a1, a2⟩ => ⟨m, by omega, a2⟩, fun ⟨m, a1, a2, a3, a4, a5⟩ => ?_⟩⟩
   by_cases e : m = i
   ·subst e
    rw [htt] at a4
    exact absurd ⟨(h2.at' ho hi).2 a3, a4⟩ g2
   ·exact ⟨m, by omega, a2, a3, a4, a5⟩
  simp (contextual := true) (maxSteps := 1000000) (disch := omega) only [↓Sd, ↓So, ↓Sk, ↓den, ↓denA, Sa, Sb, Sc, Se, O1.d, O2.d, O3.d, cmI, arI, envOf, putN, ↓reduceIte, Nat.reduceLT, Nat.reduceSub, Nat.reduceAdd, Int.reduceAdd, Int.reduceEq, Int.reduceLT, Int.reduceLE, arr_pos, arr_neg, ↓wpJoin, ht, tab_len, tab_get hi]
  refine ⟨fun g => ⟨(p, u), ⟨rfl, rfl⟩, hsk (.inl g) (by rw [g]; simp)⟩, fun g => ⟨fun g0 => ⟨(p, u), ⟨rfl, rfl⟩, hsk (.inr (by omega)) (by omega)⟩, fun g0 => ⟨fun g1 => ?_, fun g1 => ?_⟩⟩⟩
  ·have hn : 0 ≤ t.2.1 ∧ t.2.1 < vars := by
    rcases hat with h5 | h5 | h5
    ·omega
    ·exact h5.2
    ·omega
   have hp : p i = true := by simpa using g
   refine ⟨(p, fun k => if k = t.2.1.toNat then true else u k), ⟨rfl, tab_set'⟩, by omega, h2.skip ho hi (.inr (by rw [htt]; omega)), fun x => ?_⟩
   show (if x = t.2.1.toNat then true else u x) = true ↔ _
   constructor
   ·intro g3
    by_cases e : x = t.2.1.toNat
    ·exact ⟨i, Nat.le_refl _, hi, (h2.at' ho hi).1 hp, by rw [htt]; exact g1, by rw [htt]; omega⟩
    ·rw [if_neg e] at g3
     obtain ⟨m, a1, a2⟩ := (h3 x).1 g3
     exact ⟨m, by omega, a2⟩
   ·rintro ⟨m, a1, a2, a3, a4, a5⟩
    by_cases e : m = i
    ·subst e
     rw [htt] at a5
     rw [if_pos (by omega)]
    ·split
     ·rfl
     ·exact (h3 x).2 ⟨m, by omega, a2, a3, a4, a5⟩
  ·have ha : 2 ≤ t.1 ∧ (0 ≤ t.2.2.1 ∧ t.2.2.1 < i) ∧ 0 ≤ t.2.2.2 ∧ t.2.2.2 < i := by
    rcases hat with h5 | h5 | h5
    ·omega
    ·omega
    ·exact h5
   have hp : p i = true := by simpa using g
   refine ⟨by rw [List.length_set, tab_len]; omega, ?_⟩
   refine ⟨(fun k => if k = t.2.2.2.toNat then true else if k = t.2.2.1.toNat then true else p k, u), ⟨by rw [tab_set', tab_set'], rfl⟩, by omega, h2.step ho hi hp (by rw [htt]; exact ha.1) (fun j => ?_), fun x => (h3 x).trans ⟨fun ⟨m, a1, a2⟩ => ⟨m, by omega, a2⟩, fun ⟨m, a1, a2, a3, a4, a5⟩ => ?_⟩⟩
   ·show (if j = t.2.2.2.toNat then true else if j = t.2.2.1.toNat then true else p j) = true ↔ _
    rw [htt]
    by_cases e1 : j = t.2.2.2.toNat
    ·simp [e1]
    ·by_cases e2 : j = t.2.2.1.toNat
     ·simp [e2]
     ·simp [e1, e2]
   ·by_cases e : m = i
    ·subst e
     rw [htt] at a4; omega
    ·exact ⟨m, by omega, a2, a3, a4, a5⟩
 ·rintro ⟨p, u⟩ ⟨h1, h2, h3⟩
  simp only at h2 h3
  have hu : ∀ k, u k = dB (Us l k) := fun k => by
   rw [← Bool.eq_iff_iff.2 (show u k = true ↔ dB (Us l k) = true from ?_)]
   rw [h3 k, dB_iff]
   exact ⟨fun ⟨m, a1, a2⟩ => ⟨m, a2⟩, fun ⟨m, a2⟩ => ⟨m, Nat.zero_le _, a2⟩⟩
  have hul := @upTo_len (fun k => dB (Us l k)) vars
  simp (contextual := true) (maxSteps := 1000000) (disch := omega) only [↓Sd, ↓So, ↓Sk, ↓den, ↓denA, Sa, Sb, Sc, Se, O1.d, O2.d, O3.d, cmI, arI, envOf, putN, ↓reduceIte, Nat.reduceLT, Nat.reduceSub, Nat.reduceAdd, Int.reduceAdd, Int.reduceEq, Int.reduceLT, Int.reduceLE, arr_pos, arr_neg, tab_len]
  refine mc.lp_for (List Int) (fun i o => [⟨I, (vars : Int)⟩, ⟨I, (i : Int)⟩, ⟨L I, o⟩, ⟨L B, tab u vars⟩]) (fun i o => o = upTo (fun k => dB (Us l k)) i) vars 0 [] _ rfl (Nat.zero_le _) rfl ?_ ?_
  ·rintro i o hi rfl
   have h1 := @upTo_len (fun k => dB (Us l k)) i
   simp (contextual := true) (maxSteps := 1000000) (disch := omega) only [↓Sd, ↓So, ↓Sk, ↓den, ↓denA, Sa, Sb, Sc, Se, O1.d, O2.d, O3.d, cmI, arI, envOf, putN, ↓reduceIte, Nat.reduceLT, Nat.reduceSub, Nat.reduceAdd, Int.reduceAdd, Int.reduceEq, Int.reduceLT, Int.reduceLE, arr_pos, arr_neg, ↓wpJoin, tab_len, tab_get hi, hu]
   exact ⟨fun g => (upTo_s (p := fun k => dB (Us l k)) g).symm, fun g => (upTo_n (p := fun k => dB (Us l k)) g).symm⟩
  ·rintro o rfl
   simp (contextual := true) (maxSteps := 1000000) (disch := omega) only [↓Sd, ↓So, ↓Sk, ↓den, ↓denA, Sa, Sb, Sc, Se, O1.d, O2.d, O3.d, cmI, arI, envOf, putN, ↓reduceIte, Nat.reduceLT, Nat.reduceSub, Nat.reduceAdd, Int.reduceAdd, Int.reduceEq, Int.reduceLT, Int.reduceLE, arr_pos, arr_neg, C_impl_clone_int (upTo (fun k => dB (Us l k)) vars) (by omega)]
   rfl
theorem C_spec_l1Needed (l : List Tm) (vars : Int) (ho : TmsOk l vars) {Q : List AV → Prop} (hQ : ∀ p : Nat → Bool, (∀ j, j < l.length → (p j = true ↔ Nd l j)) → Q [⟨L B, tab p l.length⟩]) : mc.C f_spec_l1Needed [⟨L T4, l⟩] Q := by
 refine mc.c_of F_spec_l1Needed ?_
 have hl := ho.len
 simp (contextual := true) (maxSteps := 1000000) (disch := omega) only [↓Sd, ↓So, ↓Sk, ↓den, ↓denA, Sa, Sb, Sc, Se, O1.d, O2.d, O3.d, cmI, arI, envOf, putN, ↓reduceIte, Nat.reduceLT, Nat.reduceSub, Nat.reduceAdd, Int.reduceAdd, Int.reduceEq, Int.reduceLT, Int.reduceLE, arr_pos, arr_neg, tr_spec_l1Needed]
 refine mc.lp_for (List Bool) (fun i o => [⟨L T4, l⟩, ⟨I, (i : Int)⟩, ⟨L B, o⟩]) (fun i o => o = tab (fun j => decide (j = l.length - 1)) i) l.length 0 [] _ rfl (Nat.zero_le _) rfl ?_ ?_
 ·rintro i o hi rfl
  simp (contextual := true) (maxSteps := 1000000) (disch := omega) only [↓Sd, ↓So, ↓Sk, ↓den, ↓denA, Sa, Sb, Sc, Se, O1.d, O2.d, O3.d, cmI, arI, envOf, putN, ↓reduceIte, Nat.reduceLT, Nat.reduceSub, Nat.reduceAdd, Int.reduceAdd, Int.reduceEq, Int.reduceLT, Int.reduceLE, arr_pos, arr_neg, tab_len]
  rw [← tab_next]
  congr 2
  by_cases e : i = l.length - 1
  ·rw [decide_eq_true e, beq_iff_eq]; omega
  ·rw [decide_eq_false e, beq_eq_false_iff_ne]; omega
 rintro o rfl
 simp (contextual := true) (maxSteps := 1000000) (disch := omega) only [↓Sd, ↓So, ↓Sk, ↓den, ↓denA, Sa, Sb, Sc, Se, O1.d, O2.d, O3.d, cmI, arI, envOf, putN, ↓reduceIte, Nat.reduceLT, Nat.reduceSub, Nat.reduceAdd, Int.reduceAdd, Int.reduceEq, Int.reduceLT, Int.reduceLE, arr_pos, arr_neg, ]
 refine mc.lp_down (Nat → Bool) (fun i p => [⟨L T4, l⟩, ⟨I, (i : Int) - 1⟩, ⟨L B, tab p l.length⟩]) (fun i p => i ≤ l.length ∧ NdI l i p) l.length _ _ rfl ⟨Nat.le_refl _, NdI.start⟩ ?_ ?_
 ·rintro i p ⟨h1, h2⟩
  have hi : i < l.length := by omega
  obtain ⟨t, ht⟩ : ∃ t, l.getD i (0, 0, 0, 0) = t := ⟨_, rfl⟩
  have hat := ho.at' i hi
  have htt : tAt l i = t := ht
  rw [htt] at hat
  simp (contextual := true) (maxSteps := 1000000) (disch := omega) only [↓Sd, ↓So, ↓Sk, ↓den, ↓denA, Sa, Sb, Sc, Se, O1.d, O2.d, O3.d, cmI, arI, envOf, putN, ↓reduceIte, Nat.reduceLT, Nat.reduceSub, Nat.reduceAdd, Int.reduceAdd, Int.reduceEq, Int.reduceLT, Int.reduceLE, arr_pos, arr_neg, ↓wpJoin, ht, tab_len, tab_get hi]
  refine ⟨fun hp => ⟨fun g1 => ⟨?_, fun k => if k = t.2.2.2.toNat then true else if k = t.2.2.1.toNat then true else p k, by rw [tab_set', tab_set'], by omega, h2.step ho hi hp (by rw [htt]; exact g1) (fun j => ?_)⟩, fun g1 => ⟨p, rfl, by omega, h2.skip ho hi (.inr (by rw [htt]; omega))⟩⟩, fun g => ⟨p, rfl, by omega, h2.skip ho hi (.inl (by simpa using g))⟩⟩
  ·rw [List.length_set, tab_len]; omega
  ·show (if j = t.2.2.2.toNat then true else if j = t.2.2.1.toNat then true else p j) = true ↔ _
   rw [htt]
   by_cases e1 : j = t.2.2.2.toNat
   ·simp [e1]
   ·by_cases e2 : j = t.2.2.1.toNat
    ·simp [e2]
    ·simp [e1, e2]
 ·rintro p ⟨h1, h2⟩
  simp (contextual := true) (maxSteps := 1000000) (disch := omega) only [↓Sd, ↓So, ↓Sk, ↓den, ↓denA, Sa, Sb, Sc, Se, O1.d, O2.d, O3.d, cmI, arI, envOf, putN, ↓reduceIte, Nat.reduceLT, Nat.reduceSub, Nat.reduceAdd, Int.reduceAdd, Int.reduceEq, Int.reduceLT, Int.reduceLE, arr_pos, arr_neg, ]
  exact hQ p fun j hj => h2.end' ho hj
theorem C_spec_UsedBy (l : List Tm) (vars : Nat) (hf : Few l) (hk : kf l vars ≠ 0) (Q : List AV → Prop) : mc.C f_spec_UsedBy [⟨L T4, l⟩, ⟨I, (vars : Int)⟩] Q = Q [⟨L I, usL l vars⟩] := by
 refine Mc.Ends.c (mc.ends F_spec_UsedBy ?_)
 have ho := tms_ok hk
 have hl := ho.len
 have hv := ho.vb
 have hul := @upTo_len (fun k => dB (Us l k)) vars
 simp (contextual := true) (maxSteps := 1000000) (disch := omega) only [↓Sd, ↓So, ↓Sk, ↓den, ↓denA, Sa, Sb, Sc, Se, O1.d, O2.d, O3.d, cmI, arI, envOf, putN, ↓reduceIte, Nat.reduceLT, Nat.reduceSub, Nat.reduceAdd, Int.reduceAdd, Int.reduceEq, Int.reduceLT, Int.reduceLE, arr_pos, arr_neg, tr_spec_UsedBy, C_spec_TermsValid l vars hf]
 refine ⟨fun g => absurd (kf_nil (by omega)) hk, fun _ => ?_⟩
 refine C_spec_l1Needed l vars ho fun p hp => ?_
 simp (contextual := true) (maxSteps := 1000000) (disch := omega) only [↓Sd, ↓So, ↓Sk, ↓den, ↓denA, Sa, Sb, Sc, Se, O1.d, O2.d, O3.d, cmI, arI, envOf, putN, ↓reduceIte, Nat.reduceLT, Nat.reduceSub, Nat.reduceAdd, Int.reduceAdd, Int.reduceEq, Int.reduceLT, Int.reduceLE, arr_pos, arr_neg, ]
 refine mc.lp_for (List Int) (fun x o => [⟨L T4, l⟩, ⟨I, (vars : Int)⟩, ⟨I, (x : Int)⟩, ⟨L I, o⟩, ⟨L B, tab p l.length⟩]) (fun x o => o = upTo (fun k => dB (Us l k)) x) vars 0 [] _ rfl (Nat.zero_le _) rfl ?_ ?_
 ·rintro x o hx rfl
  have h1 := @upTo_len (fun k => dB (Us l k)) x
  simp (contextual := true) (maxSteps := 1000000) (disch := omega) only [↓Sd, ↓So, ↓Sk, ↓den, ↓denA, Sa, Sb, Sc, Se, O1.d, O2.d, O3.d, cmI, arI, envOf, putN, ↓reduceIte, Nat.reduceLT, Nat.reduceSub, Nat.reduceAdd, Int.reduceAdd, Int.reduceEq, Int.reduceLT, Int.reduceLE, arr_pos, arr_neg, ↓wpJoin, ]
  refine mc.lp_for Bool (fun i b => [⟨L T4, l⟩, ⟨I, (vars : Int)⟩, ⟨I, (x : Int)⟩, ⟨B, b⟩, ⟨I, (i : Int)⟩, ⟨L I, upTo (fun k => dB (Us l k)) x⟩, ⟨L B, tab p l.length⟩]) (fun i b => b = dB (∃ m, m < i ∧ Nd l m ∧ (tAt l m).1 = 1 ∧ (tAt l m).2.1 = x)) l.length 0 false _ rfl (Nat.zero_le _) (dB_f fun ⟨m, h, _⟩ => absurd h (Nat.not_lt_zero _)).symm ?_ ?_
  ·rintro i b hi rfl
   obtain ⟨t, ht⟩ : ∃ t, l.getD i (0, 0, 0, 0) = t := ⟨_, rfl⟩
   have htt : tAt l i = t := ht
   have hpi := hp i hi
   have hno : ¬ (Nd l i ∧ t.1 = 1 ∧ t.2.1 = x) → dB (∃ m, m < i ∧ Nd l m ∧ (tAt l m).1 = 1 ∧ (tAt l m).2.1 = x) = dB (∃ m, m < i + 1 ∧ Nd l m ∧ (tAt l m).1 = 1 ∧ (tAt l m).2.1 = x) := fun g => dB_congr ⟨fun ⟨m, a1, a2⟩ => ⟨m, by omega, a2⟩, fun ⟨m, a1, a2⟩ => by
    by_cases e : m = i
    ·subst e; rw [htt] at a2; exact absurd a2 g
    ·exact ⟨m, by omega, a2⟩⟩
   simp (contextual := true) (maxSteps := 1000000) (disch := omega) only [↓Sd, ↓So, ↓Sk, ↓den, ↓denA, Sa, Sb, Sc, Se, O1.d, O2.d, O3.d, cmI, arI, envOf, putN, ↓reduceIte, Nat.reduceLT, Nat.reduceSub, Nat.reduceAdd, Int.reduceAdd, Int.reduceEq, Int.reduceLT, Int.reduceLE, arr_pos, arr_neg, ↓wpJoin, ht, tab_len, tab_get hi]
   refine ⟨fun g => ?_, fun g => ⟨fun g1 => ⟨fun g2 => ?_, fun g2 => ?_⟩, fun g1 => ?_⟩⟩
   ·symm
    rw [dB_t]
    obtain ⟨m, a1, a2⟩ := dB_iff.1 g
    exact ⟨m, by omega, a2⟩
   ·by_cases e : t.2.1 = x
    ·rw [dB_t ⟨i, by omega, hpi.1 g1, by rw [htt]; exact g2, by rw [htt]; exact e⟩]
     simpa using e
    ·rw [← hno fun h => e h.2.2, dB_f fun h => g (dB_t h)]
     simpa using e
   ·rw [← hno fun h => g2 h.2.1]
    exact (dB_f fun h => g (dB_t h)).symm
   ·rw [← hno fun h => g1 (hpi.2 h.1)]
    exact (dB_f fun h => g (dB_t h)).symm
  ·rintro b rfl
   have e : dB (∃ m, m < l.length ∧ Nd l m ∧ (tAt l m).1 = 1 ∧ (tAt l m).2.1 = x) = dB (Us l x) := rfl
   rw [e]
   simp (contextual := true) (maxSteps := 1000000) (disch := omega) only [↓Sd, ↓So, ↓Sk, ↓den, ↓denA, Sa, Sb, Sc, Se, O1.d, O2.d, O3.d, cmI, arI, envOf, putN, ↓reduceIte, Nat.reduceLT, Nat.reduceSub, Nat.reduceAdd, Int.reduceAdd, Int.reduceEq, Int.reduceLT, Int.reduceLE, arr_pos, arr_neg, ]
   exact ⟨fun g => (upTo_s (p := fun k => dB (Us l k)) g).symm, fun g => (upTo_n (p := fun k => dB (Us l k)) g).symm⟩
 ·rintro o rfl
  simp (contextual := true) (maxSteps := 1000000) (disch := omega) only [↓Sd, ↓So, ↓Sk, ↓den, ↓denA, Sa, Sb, Sc, Se, O1.d, O2.d, O3.d, cmI, arI, envOf, putN, ↓reduceIte, Nat.reduceLT, Nat.reduceSub, Nat.reduceAdd, Int.reduceAdd, Int.reduceEq, Int.reduceLT, Int.reduceLE, arr_pos, arr_neg, ]
  rfl
theorem insZ_mem {x y : Int} : ∀ {l : List Int}, y ∈ insZ x l ↔ y = x ∨ y ∈ l
 | [] => by simp [insZ]
 | z :: l => by
  unfold insZ
  split
  ·simp
  ·simp only [List.mem_cons, insZ_mem (l := l)]
   constructor
   ·rintro (h | h | h)
    ·exact .inr (.inl h)
    ·exact .inl h
    ·exact .inr (.inr h)
   ·rintro (h | h | h)
    ·exact .inr (.inl h)
    ·exact .inl h
    ·exact .inr (.inr h)
theorem srtZ_mem {y : Int} : ∀ {l : List Int}, y ∈ srtZ l ↔ y ∈ l
 | [] => Iff.rfl
 | x :: l => by rw [srtZ, insZ_mem, srtZ_mem (l := l), List.mem_cons]
theorem insZ_len {x : Int} : ∀ {l : List Int}, (insZ x l).length = l.length + 1
 | [] => rfl
 | z :: l => by
  unfold insZ
  split
  ·rfl
  ·simp only [List.length_cons, insZ_len (l := l)]
theorem srtZ_len : ∀ {l : List Int}, (srtZ l).length = l.length
 | [] => rfl
 | x :: l => by rw [srtZ, insZ_len, srtZ_len (l := l), List.length_cons]
theorem cptZ_mem {y : Int} : ∀ {l : List Int}, y ∈ cptZ l ↔ y ∈ l
 | [] => Iff.rfl
 | [x] => Iff.rfl
 | x :: z :: l => by
  have ih := cptZ_mem (y := y) (l := z :: l)
  show y ∈ (if x = z then cptZ (z :: l) else x :: cptZ (z :: l)) ↔ _
  split
  ·rename_i h
   rw [ih, h]; simp
  ·rw [List.mem_cons, ih, List.mem_cons (a := y) (b := x)]
theorem cptZ_len : ∀ {l : List Int}, (cptZ l).length ≤ l.length
 | [] => Nat.le_refl _
 | [x] => Nat.le_refl _
 | x :: z :: l => by
  have ih := cptZ_len (l := z :: l)
  show (if x = z then cptZ (z :: l) else x :: cptZ (z :: l)).length ≤ _
  split <;> simp only [List.length_cons] at ih ⊢ <;> omega
def rl (s : Sy) (i : Nat) : Ru := s.2.getD i ([], [], [])
theorem rl_ok {s : Sy} (h : valid s) {i : Nat} (hi : i < s.2.length) : rOk (rl s i) s.1.length := h.2.2.2.1 _ (getD_mem hi)
noncomputable def tcA (n : Nat) (r : Ru) (k : Nat) : List Int := usL r.1 n ++ ((r.2.2.take k).map fun t => usL t n).flatten
theorem tcA_next {n k : Nat} {r : Ru} (h : k < r.2.2.length) : tcA n r (k + 1) = tcA n r k ++ usL (r.2.2.getD k []) n := by
 unfold tcA
 rw [List.take_succ_eq_append_getElem h, List.map_append, List.flatten_append, getD_lt h, List.append_assoc]
 simp
theorem usL_len {l : List Tm} {n : Nat} : (usL l n).length ≤ n := upTo_len
theorem tcA_len {n k : Nat} {r : Ru} (h : k ≤ r.2.2.length) : (tcA n r k).length ≤ n * (k + 1) := by
 induction k with
 | zero => simpa [tcA] using usL_len
 | succ k ih =>
  rw [tcA_next (by omega), List.length_append]
  have := @usL_len (r.2.2.getD k []) n
  have := ih (by omega)
  rw [Nat.mul_add n (k + 1) 1]; omega
noncomputable def tcL (n : Nat) (r : Ru) : List Int := cptZ (srtZ (tcA n r r.2.2.length))
noncomputable def tcS (n : Nat) (r : Ru) : List Int := upTo (fun x => dB ((x : Int) ∈ usL r.1 n ∨ ∃ m, m < r.2.2.length ∧ (x : Int) ∈ usL (r.2.2.getD m []) n)) n
theorem tcL_mem {n : Nat} {r : Ru} {x : Int} : x ∈ tcL n r ↔ (x ∈ usL r.1 n ∨ ∃ m, m < r.2.2.length ∧ x ∈ usL (r.2.2.getD m []) n) := by
 rw [tcL, cptZ_mem, srtZ_mem, tcA, List.take_length, List.mem_append, List.mem_flatten]
 refine or_congr Iff.rfl ⟨fun ⟨l, h1, h2⟩ => ?_, fun ⟨m, h1, h2⟩ => ?_⟩
 ·obtain ⟨t, h3, rfl⟩ := List.mem_map.1 h1
  obtain ⟨m, hm, rfl⟩ := List.getElem_of_mem h3
  exact ⟨m, hm, by rw [getD_lt hm]; exact h2⟩
 ·exact ⟨_, List.mem_map.2 ⟨_, getD_mem h1, rfl⟩, h2⟩
theorem tcS_mem {n : Nat} {r : Ru} {x : Int} : x ∈ tcS n r ↔ x ∈ tcL n r := by
 rw [tcL_mem, tcS, upTo_mem]
 constructor
 ·rintro ⟨k, h1, rfl, h2⟩; exact dB_iff.1 h2
 ·intro h
  have hb : 0 ≤ x ∧ x < n := by
   rcases h with h | ⟨m, _, h⟩
   ·obtain ⟨k, h1, rfl, _⟩ := upTo_mem.1 h; omega
   ·obtain ⟨k, h1, rfl, _⟩ := upTo_mem.1 h; omega
  have e : ((x.toNat : Nat) : Int) = x := by omega
  exact ⟨x.toNat, by omega, e.symm, dB_t (by rw [e]; exact h)⟩
theorem tcL_len {n : Nat} {r : Ru} (hn : n ≤ 5) (hr : r.2.2.length ≤ 5) : (tcL n r).length ≤ 30 := by
 have h1 := @cptZ_len (srtZ (tcA n r r.2.2.length))
 rw [srtZ_len] at h1
 have h2 := tcA_len (n := n) (r := r) (Nat.le_refl _)
 have h3 : n * (r.2.2.length + 1) ≤ 5 * 6 := Nat.mul_le_mul hn (by omega)
 unfold tcL
 omega
theorem rl_terms {s : Sy} (h : valid s) {i : Nat} (hi : i < s.2.length) : (rl s i).2.1.length = (rl s i).2.2.length ∧ (rl s i).2.2.length ≤ 5 ∧ kf (rl s i).1 s.1.length ≠ 0 ∧ ∀ m, m < (rl s i).2.2.length → kf ((rl s i).2.2.getD m []) s.1.length ≠ 0 := by
 have hr := rl_ok h hi
 have h5 := h.1
 have h1 := rOk_few hr.2.2
 refine ⟨hr.2.1, ?_, by rw [hr.1]; omega, fun m hm => ?_⟩
 ·rw [← hr.2.1]; omega
 ·rw [(hr.2.2 m (by rw [hr.2.1]; exact hm)).2.2]; omega
theorem C_impl_touchedBy (s : Sy) (i : Nat) (h : valid s) (hi : i < s.2.length) (Q : List AV → Prop) : mc.C f_impl_touchedBy [⟨L V3, s.1⟩, ⟨L TR, s.2⟩, ⟨I, (i : Int)⟩] Q = Q [⟨L I, tcL s.1.length (rl s i)⟩] := by
 refine Mc.Ends.c (mc.ends F_impl_touchedBy ?_)
 obtain ⟨h1, h2, h3, h4⟩ := rl_terms h hi
 have h5 := h.1
 obtain ⟨r, hr⟩ : ∃ r, rl s i = r := ⟨_, rfl⟩
 have hr' : s.2.getD i ([], [], []) = r := hr
 rw [hr] at h1 h2 h3 h4 ⊢
 have hlen := tcL_len (n := s.1.length) (r := r) h5.2 h2
 simp (contextual := true) (maxSteps := 1000000) (disch := omega) only [↓Sd, ↓So, ↓Sk, ↓den, ↓denA, Sa, Sb, Sc, Se, O1.d, O2.d, O3.d, cmI, arI, envOf, putN, ↓reduceIte, Nat.reduceLT, Nat.reduceSub, Nat.reduceAdd, Int.reduceAdd, Int.reduceEq, Int.reduceLT, Int.reduceLE, arr_pos, arr_neg, tr_impl_touchedBy, hr', C_impl_usedBy r.1 s.1.length (tms_ok h3)]
 refine mc.lp_for (List Int) (fun k o => [⟨L (L T4), r.2.2⟩, ⟨I, (r.2.2.length : Int)⟩, ⟨I, (k : Int)⟩, ⟨L V3, s.1⟩, ⟨L TR, s.2⟩, ⟨L I, o⟩]) (fun k o => o = tcA s.1.length r k) r.2.2.length 0 _ _ rfl (Nat.zero_le _) (by simp [tcA]) ?_ ?_
 ·rintro k o hk rfl
  have h6 := tcA_len (n := s.1.length) (r := r) (Nat.le_of_lt hk)
  have h7 : s.1.length * (k + 1) ≤ 5 * 6 := Nat.mul_le_mul h5.2 (by omega)
  have h8 := @usL_len (r.2.2.getD k []) s.1.length
  simp (contextual := true) (maxSteps := 1000000) (disch := omega) only [↓Sd, ↓So, ↓Sk, ↓den, ↓denA, Sa, Sb, Sc, Se, O1.d, O2.d, O3.d, cmI, arI, envOf, putN, ↓reduceIte, Nat.reduceLT, Nat.reduceSub, Nat.reduceAdd, Int.reduceAdd, Int.reduceEq, Int.reduceLT, Int.reduceLE, arr_pos, arr_neg, C_impl_usedBy (r.2.2.getD k []) s.1.length (tms_ok (h4 k hk))]
  exact (tcA_next hk).symm
 ·rintro o rfl
  have h6 := tcA_len (n := s.1.length) (r := r) (Nat.le_refl _)
  have h7 : s.1.length * (r.2.2.length + 1) ≤ 5 * 6 := Nat.mul_le_mul h5.2 (by omega)
  have e0 : ∀ l, hndZ 0 l = srtZ l := fun _ => rfl
  have e1 : hndZ 1 (srtZ (tcA s.1.length r r.2.2.length)) = tcL s.1.length r := rfl
  have e2 : (srtZ (tcA s.1.length r r.2.2.length)).length = (tcA s.1.length r r.2.2.length).length := srtZ_len
  simp (contextual := true) (maxSteps := 1000000) (disch := omega) only [↓Sd, ↓So, ↓Sk, ↓den, ↓denA, Sa, Sb, Sc, Se, O1.d, O2.d, O3.d, cmI, arI, envOf, putN, ↓reduceIte, Nat.reduceLT, Nat.reduceSub, Nat.reduceAdd, Int.reduceAdd, Int.reduceEq, Int.reduceLT, Int.reduceLE, arr_pos, arr_neg, e0, e1, e2, C_impl_clone_int (tcL s.1.length r) (by omega)]
theorem C_impl_meets (a b : List Int) (ha : a.length ≤ 1048576) (hb : b.length ≤ 1048576) (Q : List AV → Prop) : mc.C f_impl_meets [⟨L I, a⟩, ⟨L I, b⟩] Q = Q [⟨B, dB (∃ x ∈ a, x ∈ b)⟩] := by
 refine Mc.Ends.c (mc.ends F_impl_meets ?_)
 generalize hK : dB (∃ x ∈ a, x ∈ b) = K
 simp (contextual := true) (maxSteps := 1000000) (disch := omega) only [↓Sd, ↓So, ↓Sk, ↓den, ↓denA, Sa, Sb, Sc, Se, O1.d, O2.d, O3.d, cmI, arI, envOf, putN, ↓reduceIte, Nat.reduceLT, Nat.reduceSub, Nat.reduceAdd, Int.reduceAdd, Int.reduceEq, Int.reduceLT, Int.reduceLE, arr_pos, arr_neg, tr_impl_meets]
 refine lp_all (fun i => [⟨L I, a⟩, ⟨I, (a.length : Int)⟩, ⟨I, (i : Int)⟩, ⟨L I, b⟩]) (fun i => ¬ a.getD i 0 ∈ b) a.length _ rfl ?_ ?_
 ·intro i hi
  simp (contextual := true) (maxSteps := 1000000) (disch := omega) only [↓Sd, ↓So, ↓Sk, ↓den, ↓denA, Sa, Sb, Sc, Se, O1.d, O2.d, O3.d, cmI, arI, envOf, putN, ↓reduceIte, Nat.reduceLT, Nat.reduceSub, Nat.reduceAdd, Int.reduceAdd, Int.reduceEq, Int.reduceLT, Int.reduceLE, arr_pos, arr_neg, C_slices_Contains_int b (a.getD i 0) hb]
  refine ⟨fun h => ?_, fun h => fun g => h (dB_t g)⟩
  rw [← hK, dB_t ⟨_, getD_mem hi, dB_iff.1 h⟩]
  simp
 ·intro h
  simp (contextual := true) (maxSteps := 1000000) (disch := omega) only [↓Sd, ↓So, ↓Sk, ↓den, ↓denA, Sa, Sb, Sc, Se, O1.d, O2.d, O3.d, cmI, arI, envOf, putN, ↓reduceIte, Nat.reduceLT, Nat.reduceSub, Nat.reduceAdd, Int.reduceAdd, Int.reduceEq, Int.reduceLT, Int.reduceLE, arr_pos, arr_neg, ]
  rw [← hK, dB_f]
  ·rfl
  ·rintro ⟨x, h1, h2⟩
   obtain ⟨i, hi, rfl⟩ := List.getElem_of_mem h1
   exact h i hi (by rw [getD_lt hi]; exact h2)
theorem C_spec_l26Meet (a b : List Int) (ha : a.length ≤ 1048576) (hb : b.length ≤ 1048576) (Q : List AV → Prop) : mc.C f_spec_l26Meet [⟨L I, a⟩, ⟨L I, b⟩] Q = Q [⟨B, dB (∃ x ∈ a, x ∈ b)⟩] := by
 refine Mc.Ends.c (mc.ends F_spec_l26Meet ?_)
 generalize hK : dB (∃ x ∈ a, x ∈ b) = K
 simp (contextual := true) (maxSteps := 1000000) (disch := omega) only [↓Sd, ↓So, ↓Sk, ↓den, ↓denA, Sa, Sb, Sc, Se, O1.d, O2.d, O3.d, cmI, arI, envOf, putN, ↓reduceIte, Nat.reduceLT, Nat.reduceSub, Nat.reduceAdd, Int.reduceAdd, Int.reduceEq, Int.reduceLT, Int.reduceLE, arr_pos, arr_neg, tr_spec_l26Meet]
 refine lp_all (fun i => [⟨L I, a⟩, ⟨L I, b⟩, ⟨I, (i : Int)⟩]) (fun i => ¬ a.getD i 0 ∈ b) a.length _ rfl ?_ ?_
 ·intro i hi
  simp (contextual := true) (maxSteps := 1000000) (disch := omega) only [↓Sd, ↓So, ↓Sk, ↓den, ↓denA, Sa, Sb, Sc, Se, O1.d, O2.d, O3.d, cmI, arI, envOf, putN, ↓reduceIte, Nat.reduceLT, Nat.reduceSub, Nat.reduceAdd, Int.reduceAdd, Int.reduceEq, Int.reduceLT, Int.reduceLE, arr_pos, arr_neg, C_spec_l2Has b (a.getD i 0) hb]
  refine ⟨fun h => ?_, fun h => fun g => h (dB_t g)⟩
  rw [← hK, dB_t ⟨_, getD_mem hi, dB_iff.1 h⟩]
 ·intro h
  simp (contextual := true) (maxSteps := 1000000) (disch := omega) only [↓Sd, ↓So, ↓Sk, ↓den, ↓denA, Sa, Sb, Sc, Se, O1.d, O2.d, O3.d, cmI, arI, envOf, putN, ↓reduceIte, Nat.reduceLT, Nat.reduceSub, Nat.reduceAdd, Int.reduceAdd, Int.reduceEq, Int.reduceLT, Int.reduceLE, arr_pos, arr_neg, ]
  rw [← hK, dB_f]
  rintro ⟨x, h1, h2⟩
  obtain ⟨i, hi, rfl⟩ := List.getElem_of_mem h1
  exact h i hi (by rw [getD_lt hi]; exact h2)
def Mt2 (a b : List Int) : Prop := ∃ x ∈ a, x ∈ b
theorem Mt2.congr {a b c : List Int} (h : ∀ x, x ∈ b ↔ x ∈ c) : Mt2 a b ↔ Mt2 a c := ⟨fun ⟨x, h1, h2⟩ => ⟨x, h1, (h x).1 h2⟩, fun ⟨x, h1, h2⟩ => ⟨x, h1, (h x).2 h2⟩⟩
def Apr (s : Sy) (i j : Nat) : Prop := ¬ Mt2 (rl s i).2.1 (rl s j).2.1 ∧ ¬ Mt2 (rl s i).2.1 (tcL s.1.length (rl s j)) ∧ ¬ Mt2 (rl s j).2.1 (tcL s.1.length (rl s i))
noncomputable def wkB (s : Sy) (i k : Nat) : Bool := dB (k ≠ i ∧ Mt2 (rl s k).2.1 (tcL s.1.length (rl s i)))
noncomputable def wkL (s : Sy) (i : Nat) : List Int := upTo (wkB s i) s.2.length
theorem wkL_len {s : Sy} {i : Nat} (h : valid s) : (wkL s i).length ≤ 8 := by have h1 := h.2.1; have := @upTo_len (wkB s i) s.2.length; unfold wkL; omega
theorem C_impl_rulesApart (s : Sy) (i j : Nat) (h : valid s) (hi : i < s.2.length) (hj : j < s.2.length) (Q : List AV → Prop) : mc.C f_impl_rulesApart [⟨L V3, s.1⟩, ⟨L TR, s.2⟩, ⟨I, (i : Int)⟩, ⟨I, (j : Int)⟩] Q = Q [⟨B, dB (Apr s i j)⟩] := by
 refine Mc.Ends.c (mc.ends F_impl_rulesApart ?_)
 obtain ⟨a1, a2, -, -⟩ := rl_terms h hi
 obtain ⟨b1, b2, -, -⟩ := rl_terms h hj
 have h5 := h.1
 have c1 := tcL_len (n := s.1.length) (r := rl s i) h5.2 a2
 have c2 := tcL_len (n := s.1.length) (r := rl s j) h5.2 b2
 have ei : s.2.getD i ([], [], []) = rl s i := rfl
 have ej : s.2.getD j ([], [], []) = rl s j := rfl
 generalize hK : dB (Apr s i j) = K
 simp (contextual := true) (maxSteps := 1000000) (disch := omega) only [↓Sd, ↓So, ↓Sk, ↓den, ↓denA, Sa, Sb, Sc, Se, O1.d, O2.d, O3.d, cmI, arI, envOf, putN, ↓reduceIte, Nat.reduceLT, Nat.reduceSub, Nat.reduceAdd, Int.reduceAdd, Int.reduceEq, Int.reduceLT, Int.reduceLE, arr_pos, arr_neg, tr_impl_rulesApart, ei, ej, C_impl_meets (rl s i).2.1 (rl s j).2.1 (by omega) (by omega), C_impl_touchedBy s j h hj, C_impl_touchedBy s i h hi, C_impl_meets (rl s i).2.1 (tcL s.1.length (rl s j)) (by omega) (by omega), C_impl_meets (rl s j).2.1 (tcL s.1.length (rl s i)) (by omega) (by omega)]
 refine ⟨fun g1 => ⟨fun g2 => ?_, fun g2 => ?_⟩, fun g1 => ?_⟩
 ·have n1 : ¬ Mt2 (rl s i).2.1 (rl s j).2.1 := fun g => by
   have g' : ∃ x, x ∈ (rl s i).2.1 ∧ x ∈ (rl s j).2.1 := g
   rw [dB_t g'] at g1; cases g1
  have n2 : ¬ Mt2 (rl s i).2.1 (tcL s.1.length (rl s j)) := fun g => by
   have g' : ∃ x, x ∈ (rl s i).2.1 ∧ x ∈ tcL s.1.length (rl s j) := g
   rw [dB_t g'] at g2; cases g2
  by_cases e : Mt2 (rl s j).2.1 (tcL s.1.length (rl s i))
  ·rw [← hK, dB_f (fun g : Apr s i j => g.2.2 e), dB_t (show ∃ x, x ∈ (rl s j).2.1 ∧ x ∈ tcL s.1.length (rl s i) from e)]; rfl
  ·rw [← hK, dB_t (show Apr s i j from ⟨n1, n2, e⟩), dB_f (show ¬ ∃ x, x ∈ (rl s j).2.1 ∧ x ∈ tcL s.1.length (rl s i) from e)]; rfl
 ·rw [← hK, dB_f fun g => g2 (dB_f g.2.1)]
 ·rw [← hK, dB_f fun g => g1 (dB_f g.1)]
theorem C_impl_wakersOf (s : Sy) (i : Nat) (h : valid s) (hi : i < s.2.length) (Q : List AV → Prop) : mc.C f_impl_wakersOf [⟨L V3, s.1⟩, ⟨L TR, s.2⟩, ⟨I, (i : Int)⟩] Q = Q [⟨L I, wkL s i⟩] := by
 refine Mc.Ends.c (mc.ends F_impl_wakersOf ?_)
 obtain ⟨a1, a2, -, -⟩ := rl_terms h hi
 have h5 := h.1
 have h8 := h.2.1
 have c1 := tcL_len (n := s.1.length) (r := rl s i) h5.2 a2
 have hwl := @wkL_len s i h
 simp (contextual := true) (maxSteps := 1000000) (disch := omega) only [↓Sd, ↓So, ↓Sk, ↓den, ↓denA, Sa, Sb, Sc, Se, O1.d, O2.d, O3.d, cmI, arI, envOf, putN, ↓reduceIte, Nat.reduceLT, Nat.reduceSub, Nat.reduceAdd, Int.reduceAdd, Int.reduceEq, Int.reduceLT, Int.reduceLE, arr_pos, arr_neg, tr_impl_wakersOf, C_impl_touchedBy s i h hi]
 refine mc.lp_for (List Int) (fun k o => [⟨I, (i : Int)⟩, ⟨L TR, s.2⟩, ⟨I, (s.2.length : Int)⟩, ⟨I, (k : Int)⟩, ⟨L I, tcL s.1.length (rl s i)⟩, ⟨L I, o⟩]) (fun k o => o = upTo (wkB s i) k) s.2.length 0 [] _ rfl (Nat.zero_le _) rfl ?_ ?_
 ·rintro k o hk rfl
  obtain ⟨b1, b2, -, -⟩ := rl_terms h hk
  have ek : s.2.getD k ([], [], []) = rl s k := rfl
  have hul := @upTo_len (wkB s i) k
  simp (contextual := true) (maxSteps := 1000000) (disch := omega) only [↓Sd, ↓So, ↓Sk, ↓den, ↓denA, Sa, Sb, Sc, Se, O1.d, O2.d, O3.d, cmI, arI, envOf, putN, ↓reduceIte, Nat.reduceLT, Nat.reduceSub, Nat.reduceAdd, Int.reduceAdd, Int.reduceEq, Int.reduceLT, Int.reduceLE, arr_pos, arr_neg, ↓wpJoin, ek, C_impl_meets (rl s k).2.1 (tcL s.1.length (rl s i)) (by omega) (by omega)]
  refine ⟨fun g1 => ⟨fun g2 => (upTo_s (p := wkB s i) (dB_t ⟨by omega, dB_iff.1 g2⟩)).symm, fun g2 => (upTo_n (p := wkB s i) fun g => g2 (dB_t (dB_iff.1 g).2)).symm⟩, fun g1 => (upTo_n (p := wkB s i) fun g => (dB_iff.1 g).1 (by omega)).symm⟩
 ·rintro o rfl
  have e : upTo (wkB s i) s.2.length = wkL s i := rfl
  rw [e]
  simp (contextual := true) (maxSteps := 1000000) (disch := omega) only [↓Sd, ↓So, ↓Sk, ↓den, ↓denA, Sa, Sb, Sc, Se, O1.d, O2.d, O3.d, cmI, arI, envOf, putN, ↓reduceIte, Nat.reduceLT, Nat.reduceSub, Nat.reduceAdd, Int.reduceAdd, Int.reduceEq, Int.reduceLT, Int.reduceLE, arr_pos, arr_neg, C_impl_clone_int (wkL s i) (by omega)]
theorem C_spec_TouchedBy (s : Sy) (i : Nat) (hs : FewSy s) (h : valid s) (hi : i < s.2.length) (Q : List AV → Prop) : mc.C f_spec_TouchedBy [⟨L V3, s.1⟩, ⟨L TR, s.2⟩, ⟨I, (i : Int)⟩] Q = Q [⟨L I, (rl s i).2.1⟩, ⟨L I, tcS s.1.length (rl s i)⟩] := by
 refine Mc.Ends.c (mc.ends F_spec_TouchedBy ?_)
 obtain ⟨h1, h2, h3, h4⟩ := rl_terms h hi
 have h5 := h.1
 obtain ⟨r, hr⟩ : ∃ r, rl s i = r := ⟨_, rfl⟩
 have hr' : s.2.getD i ([], [], []) = r := hr
 have hrm : r ∈ s.2 := by rw [← hr']; exact getD_mem hi
 have hru : FewRu r := hs.2.2 r hrm
 have h8 := h.2.1
 rw [hr] at h1 h2 h3 h4 ⊢
 simp (contextual := true) (maxSteps := 1000000) (disch := omega) only [↓Sd, ↓So, ↓Sk, ↓den, ↓denA, Sa, Sb, Sc, Se, O1.d, O2.d, O3.d, cmI, arI, envOf, putN, ↓reduceIte, Nat.reduceLT, Nat.reduceSub, Nat.reduceAdd, Int.reduceAdd, Int.reduceEq, Int.reduceLT, Int.reduceLE, arr_pos, arr_neg, tr_spec_TouchedBy, C_spec_SystemValid s hs, decide_eq_true h, C_spec_l1In, decide_eq_true (show 0 ≤ (i : Int) ∧ (i : Int) ≤ (s.2.length : Int) - 1 by omega), hr']
 refine mc.lp_for (List Int) (fun k o => [⟨I, (k : Int)⟩, ⟨L V3, s.1⟩, ⟨L TR, s.2⟩, ⟨L T4, r.1⟩, ⟨L I, r.2.1⟩, ⟨L (L T4), r.2.2⟩, ⟨L I, o⟩]) (fun k o => o = r.2.1.take k) r.2.1.length 0 [] _ rfl (Nat.zero_le _) rfl ?_ ?_
 ·rintro k o hk rfl
  have : (r.2.1.take k).length ≤ 5 := by rw [List.length_take]; omega
  simp (contextual := true) (maxSteps := 1000000) (disch := omega) only [↓Sd, ↓So, ↓Sk, ↓den, ↓denA, Sa, Sb, Sc, Se, O1.d, O2.d, O3.d, cmI, arI, envOf, putN, ↓reduceIte, Nat.reduceLT, Nat.reduceSub, Nat.reduceAdd, Int.reduceAdd, Int.reduceEq, Int.reduceLT, Int.reduceLE, arr_pos, arr_neg, ]
  rw [List.take_succ_eq_append_getElem hk, getD_lt hk]
 rintro o rfl
 rw [List.take_length]
 simp (contextual := true) (maxSteps := 1000000) (disch := omega) only [↓Sd, ↓So, ↓Sk, ↓den, ↓denA, Sa, Sb, Sc, Se, O1.d, O2.d, O3.d, cmI, arI, envOf, putN, ↓reduceIte, Nat.reduceLT, Nat.reduceSub, Nat.reduceAdd, Int.reduceAdd, Int.reduceEq, Int.reduceLT, Int.reduceLE, arr_pos, arr_neg, ]
 refine mc.lp_for (List Int) (fun k o => [⟨I, (k : Int)⟩, ⟨L V3, s.1⟩, ⟨L TR, s.2⟩, ⟨L T4, r.1⟩, ⟨L I, r.2.1⟩, ⟨L (L T4), r.2.2⟩, ⟨L I, r.2.1⟩, ⟨L I, o⟩]) (fun k o => o = upTo (fun x => dB ((x : Int) ∈ usL r.1 s.1.length ∨ ∃ m, m < r.2.2.length ∧ (x : Int) ∈ usL (r.2.2.getD m []) s.1.length)) k) s.1.length 0 [] _ rfl (Nat.zero_le _) rfl ?_ ?_
 ·rintro x o hx rfl
  have h6 := @upTo_len (fun x => dB ((x : Int) ∈ usL r.1 s.1.length ∨ ∃ m, m < r.2.2.length ∧ (x : Int) ∈ usL (r.2.2.getD m []) s.1.length)) x
  obtain ⟨U, hU⟩ : ∃ U, upTo (fun x => dB ((x : Int) ∈ usL r.1 s.1.length ∨ ∃ m, m < r.2.2.length ∧ (x : Int) ∈ usL (r.2.2.getD m []) s.1.length)) x = U := ⟨_, rfl⟩
  have h7 := @usL_len r.1 s.1.length
  rw [hU] at h6 ⊢
  simp (contextual := true) (maxSteps := 1000000) (disch := omega) only [↓Sd, ↓So, ↓Sk, ↓den, ↓denA, Sa, Sb, Sc, Se, O1.d, O2.d, O3.d, cmI, arI, envOf, putN, ↓reduceIte, Nat.reduceLT, Nat.reduceSub, Nat.reduceAdd, Int.reduceAdd, Int.reduceEq, Int.reduceLT, Int.reduceLE, arr_pos, arr_neg, ↓wpJoin, C_spec_UsedBy r.1 s.1.length hru.1 h3, C_spec_l2Has (usL r.1 s.1.length) x (by omega)]
  refine mc.lp_for Bool (fun m b => [⟨I, (x : Int)⟩, ⟨B, b⟩, ⟨I, (m : Int)⟩, ⟨L V3, s.1⟩, ⟨L TR, s.2⟩, ⟨L T4, r.1⟩, ⟨L I, r.2.1⟩, ⟨L (L T4), r.2.2⟩, ⟨L I, r.2.1⟩, ⟨L I, U⟩]) (fun m b => b = dB ((x : Int) ∈ usL r.1 s.1.length ∨ ∃ a, a < m ∧ (x : Int) ∈ usL (r.2.2.getD a []) s.1.length)) r.2.2.length 0 _ _ rfl (Nat.zero_le _) (dB_congr ⟨.inl, fun h => h.elim id fun ⟨a, h, _⟩ => absurd h (Nat.not_lt_zero _)⟩) ?_ ?_
  ·rintro m b hm rfl
   have h9 := @usL_len (r.2.2.getD m []) s.1.length
   have hfm : Few (r.2.2.getD m []) := hru.2.2.2 _ (getD_mem hm)
   simp (contextual := true) (maxSteps := 1000000) (disch := omega) only [↓Sd, ↓So, ↓Sk, ↓den, ↓denA, Sa, Sb, Sc, Se, O1.d, O2.d, O3.d, cmI, arI, envOf, putN, ↓reduceIte, Nat.reduceLT, Nat.reduceSub, Nat.reduceAdd, Int.reduceAdd, Int.reduceEq, Int.reduceLT, Int.reduceLE, arr_pos, arr_neg, ↓wpJoin, C_spec_UsedBy (r.2.2.getD m []) s.1.length hfm (h4 m hm), C_spec_l2Has (usL (r.2.2.getD m []) s.1.length) x (by omega)]
   refine ⟨fun g => ?_, fun g => dB_congr ⟨fun g2 => .inr ⟨m, by omega, g2⟩, fun g2 => ?_⟩⟩
   ·rw [dB_t]
    rcases dB_iff.1 g with g1 | ⟨a, g1, g2⟩
    ·exact .inl g1
    ·exact .inr ⟨a, by omega, g2⟩
   ·rcases g2 with g1 | ⟨a, g1, g2⟩
    ·exact absurd (dB_t (.inl g1)) g
    ·by_cases e : a = m
     ·rw [← e]; exact g2
     ·exact absurd (dB_t (.inr ⟨a, by omega, g2⟩)) g
  ·rintro b rfl
   rw [← hU]
   have hUl : (upTo (fun x => dB ((x : Int) ∈ usL r.1 s.1.length ∨ ∃ m, m < r.2.2.length ∧ (x : Int) ∈ usL (r.2.2.getD m []) s.1.length)) x).length ≤ x := upTo_len
   obtain ⟨P, hP⟩ : ∃ P : Nat → Bool, P = fun x : Nat => dB ((x : Int) ∈ usL r.1 s.1.length ∨ ∃ m, m < r.2.2.length ∧ (x : Int) ∈ usL (r.2.2.getD m []) s.1.length) := ⟨_, rfl⟩
   have hPx : dB ((x : Int) ∈ usL r.1 s.1.length ∨ ∃ m, m < r.2.2.length ∧ (x : Int) ∈ usL (r.2.2.getD m []) s.1.length) = P x := by rw [hP]
   rw [hPx]
   rw [← hP] at hUl ⊢
   simp (contextual := true) (maxSteps := 1000000) (disch := omega) only [↓Sd, ↓So, ↓Sk, ↓den, ↓denA, Sa, Sb, Sc, Se, O1.d, O2.d, O3.d, cmI, arI, envOf, putN, ↓reduceIte, Nat.reduceLT, Nat.reduceSub, Nat.reduceAdd, Int.reduceAdd, Int.reduceEq, Int.reduceLT, Int.reduceLE, arr_pos, arr_neg, ]
   exact ⟨fun g => (upTo_s (p := P) g).symm, fun g => (upTo_n (p := P) g).symm⟩
 ·rintro o rfl
  simp (contextual := true) (maxSteps := 1000000) (disch := omega) only [↓Sd, ↓So, ↓Sk, ↓den, ↓denA, Sa, Sb, Sc, Se, O1.d, O2.d, O3.d, cmI, arI, envOf, putN, ↓reduceIte, Nat.reduceLT, Nat.reduceSub, Nat.reduceAdd, Int.reduceAdd, Int.reduceEq, Int.reduceLT, Int.reduceLE, arr_pos, arr_neg, ]
  rfl
theorem C_spec_l26Apart (s : Sy) (i j : Nat) (hs : FewSy s) (h : valid s) (hi : i < s.2.length) (hj : j < s.2.length) (Q : List AV → Prop) : mc.C f_spec_l26Apart [⟨L V3, s.1⟩, ⟨L TR, s.2⟩, ⟨I, (i : Int)⟩, ⟨I, (j : Int)⟩] Q = Q [⟨B, dB (Apr s i j)⟩] := by
 refine Mc.Ends.c (mc.ends F_spec_l26Apart ?_)
 obtain ⟨a1, a2, -, -⟩ := rl_terms h hi
 obtain ⟨b1, b2, -, -⟩ := rl_terms h hj
 have h5 := h.1
 have c1 : (tcS s.1.length (rl s i)).length ≤ s.1.length := upTo_len
 have c2 : (tcS s.1.length (rl s j)).length ≤ s.1.length := upTo_len
 have m1 : Mt2 (rl s i).2.1 (tcS s.1.length (rl s j)) ↔ Mt2 (rl s i).2.1 (tcL s.1.length (rl s j)) := Mt2.congr fun x => tcS_mem
 have m2 : Mt2 (rl s j).2.1 (tcS s.1.length (rl s i)) ↔ Mt2 (rl s j).2.1 (tcL s.1.length (rl s i)) := Mt2.congr fun x => tcS_mem
 generalize hK : dB (Apr s i j) = K
 simp (contextual := true) (maxSteps := 1000000) (disch := omega) only [↓Sd, ↓So, ↓Sk, ↓den, ↓denA, Sa, Sb, Sc, Se, O1.d, O2.d, O3.d, cmI, arI, envOf, putN, ↓reduceIte, Nat.reduceLT, Nat.reduceSub, Nat.reduceAdd, Int.reduceAdd, Int.reduceEq, Int.reduceLT, Int.reduceLE, arr_pos, arr_neg, tr_spec_l26Apart, C_spec_TouchedBy s i hs h hi, C_spec_TouchedBy s j hs h hj, C_spec_l26Meet (rl s i).2.1 (rl s j).2.1 (by omega) (by omega), C_spec_l26Meet (rl s i).2.1 (tcS s.1.length (rl s j)) (by omega) (by omega), C_spec_l26Meet (rl s j).2.1 (tcS s.1.length (rl s i)) (by omega) (by omega)]
 refine ⟨fun g1 => ⟨fun g2 => ?_, fun g2 => ?_⟩, fun g1 => ?_⟩
 ·have n1 : ¬ Mt2 (rl s i).2.1 (rl s j).2.1 := fun g => by
   have g' : ∃ x, x ∈ (rl s i).2.1 ∧ x ∈ (rl s j).2.1 := g
   rw [dB_t g'] at g1; cases g1
  have n2 : ¬ Mt2 (rl s i).2.1 (tcL s.1.length (rl s j)) := fun g => by
   have g' : ∃ x, x ∈ (rl s i).2.1 ∧ x ∈ tcS s.1.length (rl s j) := m1.2 g
   rw [dB_t g'] at g2; cases g2
  by_cases e : Mt2 (rl s j).2.1 (tcL s.1.length (rl s i))
  ·rw [← hK, dB_f (fun g : Apr s i j => g.2.2 e), dB_t (show ∃ x, x ∈ (rl s j).2.1 ∧ x ∈ tcS s.1.length (rl s i) from m2.2 e)]; rfl
  ·rw [← hK, dB_t (show Apr s i j from ⟨n1, n2, e⟩), dB_f (show ¬ ∃ x, x ∈ (rl s j).2.1 ∧ x ∈ tcS s.1.length (rl s i) from fun g => e (m2.1 g))]; rfl
 ·rw [← hK, dB_f fun g => g2 (dB_f fun g' => g.2.1 (m1.1 g'))]
 ·rw [← hK, dB_f fun g => g1 (dB_f g.1)]
noncomputable def abS (s : Sy) (st : List Int) (k : Nat) : Bool := decide (¬ useM s.1 (rl s k) st = [])
def inS (s : Sy) (st : List Int) : Prop := valid s ∧ inR s.1 st
theorem C_impl_InRange_a (s : Sy) (st : List Int) (hs : FewSy s) (hl : st.length ≤ 1048576) (Q : List AV → Prop) : mc.C f_impl_InRange [⟨L V3, s.1⟩, ⟨L TR, s.2⟩, ⟨L I, st⟩] Q = Q [⟨B, dB (inS s st)⟩] := by
 refine Mc.Ends.c (mc.ends F_impl_InRange ?_)
 by_cases hv : valid s
 ·simp (contextual := true) (maxSteps := 1000000) (disch := omega) only [↓Sd, ↓So, ↓Sk, ↓den, ↓denA, Sa, Sb, Sc, Se, O1.d, O2.d, O3.d, cmI, arI, envOf, putN, ↓reduceIte, Nat.reduceLT, Nat.reduceSub, Nat.reduceAdd, Int.reduceAdd, Int.reduceEq, Int.reduceLT, Int.reduceLE, arr_pos, arr_neg, tr_impl_InRange, C_impl_SystemValid s hs, decide_eq_true hv, C_impl_inRange s st hv.1.2 hl]
  rw [← dB_eq]
  exact dB_congr ⟨fun h => ⟨hv, h⟩, fun h => h.2⟩
 ·simp (contextual := true) (maxSteps := 1000000) (disch := omega) only [↓Sd, ↓So, ↓Sk, ↓den, ↓denA, Sa, Sb, Sc, Se, O1.d, O2.d, O3.d, cmI, arI, envOf, putN, ↓reduceIte, Nat.reduceLT, Nat.reduceSub, Nat.reduceAdd, Int.reduceAdd, Int.reduceEq, Int.reduceLT, Int.reduceLE, arr_pos, arr_neg, tr_impl_InRange, C_impl_SystemValid s hs, decide_eq_false hv]
  rw [dB_f fun h => hv h.1]
def hop (t : Tm) (P wl : Nat → Nat → Bool) (s m i : Nat) (x : Bool) : Bool :=
 if t.1 = 0 then true else if t.1 = 1 then wl i t.2.1.toNat else if t.1 = 2 then !P t.2.2.1.toNat i else if t.1 = 3 then P t.2.2.1.toNat i && P t.2.2.2.toNat i else
 if t.1 = 4 then P t.2.2.1.toNat i || P t.2.2.2.toNat i else if t.1 = 5 then P t.2.2.1.toNat (if i + 1 = m then s else i + 1) else
 if t.1 = 6 then P t.2.2.2.toNat i || (P t.2.2.1.toNat i && x) else P t.2.2.2.toNat i && (P t.2.2.1.toNat i || x)
end Go.Proofs.YtlfinllnfggiiaaGreat
