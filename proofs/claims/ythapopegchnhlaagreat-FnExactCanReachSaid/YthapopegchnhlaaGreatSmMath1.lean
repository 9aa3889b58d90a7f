/- What the trees come to: plain mathematics; no condition. -/
import Derived.Test.YthapopegchnhlaaGreatSmMath0
namespace Go.Proofs.YthapopegchnhlaaGreat
open Go Go.Sm Go.Sm.Q
set_option linter.unusedSimpArgs false
set_option linter.unusedVariables false
theorem turned_get {T : List (List Int)} {n k a : Nat} (h : k < n) : (a : Int) ∈ (turned T n).getD k [] ↔ a < n ∧ (k : Int) ∈ T.getD a [] := by
 rw [turned, tab_get h, upTo_mem]
 constructor
 ·rintro ⟨b, h1, h2, h3⟩
  have : a = b := by omega
  subst this
  exact ⟨h1, by simpa using h3⟩
 ·rintro ⟨h1, h2⟩
  exact ⟨a, h1, rfl, by simpa using h2⟩
theorem dB_contains {l : List Int} {x : Int} : dB (x ∈ l) = l.contains x := by
 by_cases h : x ∈ l
 ·rw [dB_t h]; simp [h]
 ·rw [dB_f h]; simp [h]
theorem C_spec_l5Turned (T : List (List Int)) (n : Nat) (hn : n ≤ 1000) (ht : Tbl T n) (Q : List AV → Prop) : mc.C f_spec_l5Turned [⟨L (L I), T⟩] Q = Q [⟨L (L I), turned T n⟩] := by
 have hT := ht.1
 refine Mc.Ends.c (mc.ends F_spec_l5Turned ?_)
 simp (contextual := true) (maxSteps := 1000000) (disch := omega) only [↓Sd, ↓So, ↓Sk, ↓den, ↓denA, Sa, Sb, Sc, Se, O1.d, O2.d, O3.d, cmI, arI, envOf, putN, ↓reduceIte, Nat.reduceLT, Nat.reduceSub, Nat.reduceAdd, Int.reduceAdd, Int.reduceEq, Int.reduceLT, Int.reduceLE, arr_pos, arr_neg, tr_spec_l5Turned]
 refine mc.lp_for (List (List Int)) (fun i o => [⟨L (L I), T⟩, ⟨I, (i : Int)⟩, ⟨L (L I), o⟩]) (fun i o => o = tab (fun k => upTo (fun m => (T.getD m []).contains (k : Int)) n) i) n 0 [] _ rfl (Nat.zero_le _) rfl ?_ ?_
 ·rintro i o hi rfl
  simp (contextual := true) (maxSteps := 1000000) (disch := omega) only [↓Sd, ↓So, ↓Sk, ↓den, ↓denA, Sa, Sb, Sc, Se, O1.d, O2.d, O3.d, cmI, arI, envOf, putN, ↓reduceIte, Nat.reduceLT, Nat.reduceSub, Nat.reduceAdd, Int.reduceAdd, Int.reduceEq, Int.reduceLT, Int.reduceLE, arr_pos, arr_neg, hT]
  refine mc.lp_for (List Int) (fun j o => [⟨L (L I), T⟩, ⟨I, (i : Int)⟩, ⟨I, (j : Int)⟩, ⟨L (L I), tab (fun k => upTo (fun m => (T.getD m []).contains (k : Int)) n) i⟩, ⟨L I, o⟩]) (fun j o => o = upTo (fun m => (T.getD m []).contains (i : Int)) j) n 0 [] _ rfl (Nat.zero_le _) rfl ?_ ?_
  ·rintro j o hj rfl
   have h1 := @upTo_len (fun m => (T.getD m []).contains (i : Int)) j
   have hrl : (T.getD j []).length ≤ 1048576 := (ht.2 _ (getD_mem (by omega))).1
   simp (contextual := true) (maxSteps := 1000000) (disch := omega) only [↓Sd, ↓So, ↓Sk, ↓den, ↓denA, Sa, Sb, Sc, Se, O1.d, O2.d, O3.d, cmI, arI, envOf, putN, ↓reduceIte, Nat.reduceLT, Nat.reduceSub, Nat.reduceAdd, Int.reduceAdd, Int.reduceEq, Int.reduceLT, Int.reduceLE, arr_pos, arr_neg, ↓wpJoin, hT, C_spec_l2Has _ _ hrl, dB_contains]
   exact ⟨fun g => (upTo_s g).symm, fun g => (upTo_n g).symm⟩
  ·rintro o rfl
   simp (contextual := true) (maxSteps := 1000000) (disch := omega) only [↓Sd, ↓So, ↓Sk, ↓den, ↓denA, Sa, Sb, Sc, Se, O1.d, O2.d, O3.d, cmI, arI, envOf, putN, ↓reduceIte, Nat.reduceLT, Nat.reduceSub, Nat.reduceAdd, Int.reduceAdd, Int.reduceEq, Int.reduceLT, Int.reduceLE, arr_pos, arr_neg, hT, tab_len]
   exact tab_next
 ·rintro o rfl
  simp (contextual := true) (maxSteps := 1000000) (disch := omega) only [↓Sd, ↓So, ↓Sk, ↓den, ↓denA, Sa, Sb, Sc, Se, O1.d, O2.d, O3.d, cmI, arI, envOf, putN, ↓reduceIte, Nat.reduceLT, Nat.reduceSub, Nat.reduceAdd, Int.reduceAdd, Int.reduceEq, Int.reduceLT, Int.reduceLE, arr_pos, arr_neg, hT]
  rfl
def Ed (T : List (List Int)) (a k : Nat) : Prop := (k : Int) ∈ T.getD a []
def Eb (T : List (List Int)) (b k : Nat) : Prop := (b : Int) ∈ T.getD k []
theorem Ed_pasts {T : List (List Int)} {n a k : Nat} (ha : a < n) (hk : k < n) : Ed (pasts T n) a k ↔ Eb T a k := by
 unfold Ed Eb
 rw [pasts_get ha, pastL_mem]
 constructor
 ·rintro ⟨b, h1, h2, h3⟩
  have : b = k := by omega
  subst this; exact h3
 ·exact fun h => ⟨k, hk, rfl, h⟩
theorem getD_set_ne {α : Type} {l : List α} {i j : Nat} {x d : α} (h : i ≠ j) : (l.set i x).getD j d = l.getD j d := by
 simp [List.getD_eq_getElem?_getD, List.getElem?_set, h]
def Same {α : Type} (l s : List α) (d : α) (i : Nat) : Prop := s.length = l.length ∧ ∀ j, i ≤ j → s.getD j d = l.getD j d
theorem Same.refl {α : Type} {l : List α} {d : α} {i : Nat} : Same l l d i := ⟨rfl, fun _ _ => rfl⟩
theorem Same.set {α : Type} {l s : List α} {d x : α} {i : Nat} (h : Same l s d i) : Same l (s.set i x) d (i + 1) :=
 ⟨by rw [List.length_set]; exact h.1, fun j hj => by rw [getD_set_ne (by omega)]; exact h.2 j (by omega)⟩
theorem iD {k : IntKind} {a b : Int} (h : a = b) : @Eq (Ty.int k).D a b := h
theorem mk_IntS (l : List Int) (k : Int) (hk : 0 ≤ k ∧ k ≤ 9200000000000000000) (hl : l.length ≤ 1048576) (Q : List AV → Prop) : mc.C f_laws_markIntS [⟨L I, l⟩, ⟨I, k⟩] Q = Q [⟨I, k + l.length⟩, ⟨L I, tab (fun i => k + (i : Int)) l.length⟩] := by
 refine Mc.Ends.c (mc.ends F_laws_markIntS ?_)
 simp (contextual := true) (maxSteps := 1000000) (disch := omega) only [↓Sd, ↓So, ↓Sk, ↓den, ↓denA, Sa, Sb, Sc, Se, O1.d, O2.d, O3.d, cmI, arI, envOf, putN, ↓reduceIte, Nat.reduceLT, Nat.reduceSub, Nat.reduceAdd, Int.reduceAdd, Int.reduceEq, Int.reduceLT, Int.reduceLE, arr_pos, arr_neg, tr_laws_markIntS]
 refine mc.lp_for (List Int) (fun i s => [⟨I, k + (i : Int)⟩, ⟨I, (i : Int)⟩, ⟨L I, s⟩]) (fun i s => s = tab (fun i => k + (i : Int)) i ++ l.drop i) l.length 0 l _ (by simp) (Nat.zero_le _) (by simp [tab]) ?_ ?_
 ·rintro i s hi rfl
  have hlen : (tab (fun i => k + (i : Int)) i).length + (l.drop i).length = l.length := by rw [tab_len, List.length_drop]; omega
  have e : (tab (fun i => k + (i : Int)) i ++ l.drop i).set i (k + i) = tab (fun i => k + (i : Int)) (i + 1) ++ l.drop (i + 1) := by
   rw [List.set_append_right _ _ (by rw [tab_len]; exact Nat.le_refl _), tab_len, Nat.sub_self, drop_cons (d := 0) hi, List.set_cons_zero, ← tab_next, List.append_assoc]; rfl
  simp (contextual := true) (maxSteps := 1000000) (disch := omega) only [↓Sd, ↓So, ↓Sk, ↓den, ↓denA, Sa, Sb, Sc, Se, O1.d, O2.d, O3.d, cmI, arI, envOf, putN, ↓reduceIte, Nat.reduceLT, Nat.reduceSub, Nat.reduceAdd, Int.reduceAdd, Int.reduceEq, Int.reduceLT, Int.reduceLE, arr_pos, arr_neg, e]
  exact ⟨_, ⟨iD (by omega), rfl⟩, rfl⟩
 ·rintro s rfl
  rw [List.drop_length, List.append_nil]
  simp (contextual := true) (maxSteps := 1000000) (disch := omega) only [↓Sd, ↓So, ↓Sk, ↓den, ↓denA, Sa, Sb, Sc, Se, O1.d, O2.d, O3.d, cmI, arI, envOf, putN, ↓reduceIte, Nat.reduceLT, Nat.reduceSub, Nat.reduceAdd, Int.reduceAdd, Int.reduceEq, Int.reduceLT, Int.reduceLE, arr_pos, arr_neg, tab_len]
theorem held_IntS (n : Nat) (k : Int) (hk : 0 ≤ k ∧ k ≤ 9200000000000000000) (hn : n ≤ 1048576) (Q : List AV → Prop) : mc.C f_laws_heldIntS [⟨L I, tab (fun i => k + (i : Int)) n⟩, ⟨I, k⟩] Q = Q [⟨I, k + n⟩] := by
 refine Mc.Ends.c (mc.ends F_laws_heldIntS ?_)
 simp (contextual := true) (maxSteps := 1000000) (disch := omega) only [↓Sd, ↓So, ↓Sk, ↓den, ↓denA, Sa, Sb, Sc, Se, O1.d, O2.d, O3.d, cmI, arI, envOf, putN, ↓reduceIte, Nat.reduceLT, Nat.reduceSub, Nat.reduceAdd, Int.reduceAdd, Int.reduceEq, Int.reduceLT, Int.reduceLE, arr_pos, arr_neg, tr_laws_heldIntS]
 refine mc.lp_for Unit (fun i s => [⟨L I, tab (fun i => k + (i : Int)) n⟩, ⟨I, k + (i : Int)⟩, ⟨I, (i : Int)⟩]) (fun i s => True) n 0 () _ (by simp) (Nat.zero_le _) trivial ?_ ?_
 ·rintro i - hi -
  simp (contextual := true) (maxSteps := 1000000) (disch := omega) only [↓Sd, ↓So, ↓Sk, ↓den, ↓denA, Sa, Sb, Sc, Se, O1.d, O2.d, O3.d, cmI, arI, envOf, putN, ↓reduceIte, Nat.reduceLT, Nat.reduceSub, Nat.reduceAdd, Int.reduceAdd, Int.reduceEq, Int.reduceLT, Int.reduceLE, arr_pos, arr_neg, tab_len, tab_get hi]
  exact iD (by omega)
 ·rintro - -
  simp (contextual := true) (maxSteps := 1000000) (disch := omega) only [↓Sd, ↓So, ↓Sk, ↓den, ↓denA, Sa, Sb, Sc, Se, O1.d, O2.d, O3.d, cmI, arI, envOf, putN, ↓reduceIte, Nat.reduceLT, Nat.reduceSub, Nat.reduceAdd, Int.reduceAdd, Int.reduceEq, Int.reduceLT, Int.reduceLE, arr_pos, arr_neg, tab_len]
theorem mk_VarS (l : List Vr) (k : Int) (hk : 0 ≤ k ∧ k ≤ 9200000000000000000) (hl : Few l) {Q : List AV → Prop} (h : ∀ l', Q [⟨I, k + 3 * l.length⟩, ⟨L V3, l'⟩]) : mc.C f_laws_markVarS [⟨L V3, l⟩, ⟨I, k⟩] Q := by
 have hl := few_lim hl
 refine mc.c_of F_laws_markVarS ?_
 simp (contextual := true) (maxSteps := 1000000) (disch := omega) only [↓Sd, ↓So, ↓Sk, ↓den, ↓denA, Sa, Sb, Sc, Se, O1.d, O2.d, O3.d, cmI, arI, envOf, putN, ↓reduceIte, Nat.reduceLT, Nat.reduceSub, Nat.reduceAdd, Int.reduceAdd, Int.reduceEq, Int.reduceLT, Int.reduceLE, arr_pos, arr_neg, tr_laws_markVarS]
 refine mc.lp_for (List Vr) (fun i s => [⟨I, k + 3 * (i : Int)⟩, ⟨I, (i : Int)⟩, ⟨L V3, s⟩]) (fun i s => s.length = l.length) l.length 0 l _ (by simp) (Nat.zero_le _) rfl ?_ ?_
 ·rintro i s hi hs
  simp (contextual := true) (maxSteps := 1000000) (disch := omega) only [↓Sd, ↓So, ↓Sk, ↓den, ↓denA, Sa, Sb, Sc, Se, O1.d, O2.d, O3.d, cmI, arI, envOf, putN, ↓reduceIte, Nat.reduceLT, Nat.reduceSub, Nat.reduceAdd, Int.reduceAdd, Int.reduceEq, Int.reduceLT, Int.reduceLE, arr_pos, arr_neg, List.length_set, getD_set_eq, List.set_set]
  exact ⟨_, ⟨iD (by omega), rfl⟩, by simp [hs]⟩
 ·rintro s hs
  simp (contextual := true) (maxSteps := 1000000) (disch := omega) only [↓Sd, ↓So, ↓Sk, ↓den, ↓denA, Sa, Sb, Sc, Se, O1.d, O2.d, O3.d, cmI, arI, envOf, putN, ↓reduceIte, Nat.reduceLT, Nat.reduceSub, Nat.reduceAdd, Int.reduceAdd, Int.reduceEq, Int.reduceLT, Int.reduceLE, arr_pos, arr_neg, ]
  exact h s
theorem mk_TermS (l : List Tm) (k : Int) (hk : 0 ≤ k ∧ k ≤ 9200000000000000000) (hl : Few l) {Q : List AV → Prop} (h : ∀ l', Q [⟨I, k + 4 * l.length⟩, ⟨L T4, l'⟩]) : mc.C f_laws_markTermS [⟨L T4, l⟩, ⟨I, k⟩] Q := by
 have hl := few_lim hl
 refine mc.c_of F_laws_markTermS ?_
 simp (contextual := true) (maxSteps := 1000000) (disch := omega) only [↓Sd, ↓So, ↓Sk, ↓den, ↓denA, Sa, Sb, Sc, Se, O1.d, O2.d, O3.d, cmI, arI, envOf, putN, ↓reduceIte, Nat.reduceLT, Nat.reduceSub, Nat.reduceAdd, Int.reduceAdd, Int.reduceEq, Int.reduceLT, Int.reduceLE, arr_pos, arr_neg, tr_laws_markTermS]
 refine mc.lp_for (List Tm) (fun i s => [⟨I, k + 4 * (i : Int)⟩, ⟨I, (i : Int)⟩, ⟨L T4, s⟩]) (fun i s => s.length = l.length) l.length 0 l _ (by simp) (Nat.zero_le _) rfl ?_ ?_
 ·rintro i s hi hs
  simp (contextual := true) (maxSteps := 1000000) (disch := omega) only [↓Sd, ↓So, ↓Sk, ↓den, ↓denA, Sa, Sb, Sc, Se, O1.d, O2.d, O3.d, cmI, arI, envOf, putN, ↓reduceIte, Nat.reduceLT, Nat.reduceSub, Nat.reduceAdd, Int.reduceAdd, Int.reduceEq, Int.reduceLT, Int.reduceLE, arr_pos, arr_neg, List.length_set, getD_set_eq, List.set_set]
  exact ⟨_, ⟨iD (by omega), rfl⟩, by simp [hs]⟩
 ·rintro s hs
  simp (contextual := true) (maxSteps := 1000000) (disch := omega) only [↓Sd, ↓So, ↓Sk, ↓den, ↓denA, Sa, Sb, Sc, Se, O1.d, O2.d, O3.d, cmI, arI, envOf, putN, ↓reduceIte, Nat.reduceLT, Nat.reduceSub, Nat.reduceAdd, Int.reduceAdd, Int.reduceEq, Int.reduceLT, Int.reduceLE, arr_pos, arr_neg, ]
  exact h s
theorem mk_TermSS (l : List (List Tm)) (k : Int) (hk : 0 ≤ k ∧ k ≤ 9100000000000000000) (hl : Few l) (hl2 : ∀ x ∈ l, Few x) {Q : List AV → Prop} (h : ∀ k' l', k ≤ k' ∧ k' ≤ k + 4398046511104 → Q [⟨I, k'⟩, ⟨L (L T4), l'⟩]) : mc.C f_laws_markTermSS [⟨L (L T4), l⟩, ⟨I, k⟩] Q := by
 have hl := few_lim hl
 refine mc.c_of F_laws_markTermSS ?_
 simp (contextual := true) (maxSteps := 1000000) (disch := omega) only [↓Sd, ↓So, ↓Sk, ↓den, ↓denA, Sa, Sb, Sc, Se, O1.d, O2.d, O3.d, cmI, arI, envOf, putN, ↓reduceIte, Nat.reduceLT, Nat.reduceSub, Nat.reduceAdd, Int.reduceAdd, Int.reduceEq, Int.reduceLT, Int.reduceLE, arr_pos, arr_neg, tr_laws_markTermSS]
 refine mc.lp_for (Int × List (List Tm)) (fun i s => [⟨I, s.1⟩, ⟨I, (i : Int)⟩, ⟨L (L T4), s.2⟩]) (fun i s => (k ≤ s.1 ∧ s.1 ≤ k + 4194304 * (i : Int)) ∧ Same l s.2 [] i) l.length 0 (k, l) _ (by simp) (Nat.zero_le _) ⟨⟨by simp, by simp⟩, Same.refl⟩ ?_ ?_
 ·rintro i ⟨m, s⟩ hi ⟨⟨hm1, hm2⟩, hs⟩
  simp only at hm1 hm2 hs
  have hsl := hs.1
  have hsi := hs.2 i (Nat.le_refl _)
  have hf := hl2 _ (getD_mem (d := []) hi)
  have hf' := few_lim hf
  simp (contextual := true) (maxSteps := 1000000) (disch := omega) only [↓Sd, ↓So, ↓Sk, ↓den, ↓denA, Sa, Sb, Sc, Se, O1.d, O2.d, O3.d, cmI, arI, envOf, putN, ↓reduceIte, Nat.reduceLT, Nat.reduceSub, Nat.reduceAdd, Int.reduceAdd, Int.reduceEq, Int.reduceLT, Int.reduceLE, arr_pos, arr_neg, hsi]
  refine mk_TermS _ m (by omega) hf fun l' => ?_
  simp (contextual := true) (maxSteps := 1000000) (disch := omega) only [↓Sd, ↓So, ↓Sk, ↓den, ↓denA, Sa, Sb, Sc, Se, O1.d, O2.d, O3.d, cmI, arI, envOf, putN, ↓reduceIte, Nat.reduceLT, Nat.reduceSub, Nat.reduceAdd, Int.reduceAdd, Int.reduceEq, Int.reduceLT, Int.reduceLE, arr_pos, arr_neg, ]
  exact ⟨(_, _), ⟨rfl, rfl⟩, ⟨by omega, by omega⟩, hs.set⟩
 ·rintro ⟨m, s⟩ ⟨⟨hm1, hm2⟩, hs⟩
  simp only at hm1 hm2 hs
  have hsl := hs.1
  simp (contextual := true) (maxSteps := 1000000) (disch := omega) only [↓Sd, ↓So, ↓Sk, ↓den, ↓denA, Sa, Sb, Sc, Se, O1.d, O2.d, O3.d, cmI, arI, envOf, putN, ↓reduceIte, Nat.reduceLT, Nat.reduceSub, Nat.reduceAdd, Int.reduceAdd, Int.reduceEq, Int.reduceLT, Int.reduceLE, arr_pos, arr_neg, ]
  exact h m s ⟨by omega, by omega⟩
theorem mk_RuleS (l : List Ru) (k : Int) (hk : 0 ≤ k ∧ k ≤ 4400000000000000000) (hl : Few l) (hl2 : ∀ x ∈ l, FewRu x) {Q : List AV → Prop} (h : ∀ k' l', k ≤ k' ∧ k' ≤ k + 4611691515985526784 → Q [⟨I, k'⟩, ⟨L TR, l'⟩]) : mc.C f_laws_markRuleS [⟨L TR, l⟩, ⟨I, k⟩] Q := by
 have hl := few_lim hl
 refine mc.c_of F_laws_markRuleS ?_
 simp (contextual := true) (maxSteps := 1000000) (disch := omega) only [↓Sd, ↓So, ↓Sk, ↓den, ↓denA, Sa, Sb, Sc, Se, O1.d, O2.d, O3.d, cmI, arI, envOf, putN, ↓reduceIte, Nat.reduceLT, Nat.reduceSub, Nat.reduceAdd, Int.reduceAdd, Int.reduceEq, Int.reduceLT, Int.reduceLE, arr_pos, arr_neg, tr_laws_markRuleS]
 refine mc.lp_for (Int × List Ru) (fun i s => [⟨I, s.1⟩, ⟨I, (i : Int)⟩, ⟨L TR, s.2⟩]) (fun i s => (k ≤ s.1 ∧ s.1 ≤ k + 4398051753984 * (i : Int)) ∧ Same l s.2 ([], [], []) i) l.length 0 (k, l) _ (by simp) (Nat.zero_le _) ⟨⟨by simp, by simp⟩, Same.refl⟩ ?_ ?_
 ·rintro i ⟨m, s⟩ hi ⟨⟨hm1, hm2⟩, hs⟩
  simp only at hm1 hm2 hs
  have hsl := hs.1
  have hsi := hs.2 i (Nat.le_refl _)
  obtain ⟨c1, c2, c3, c4⟩ := hl2 _ (getD_mem (d := ([], [], [])) hi)
  have c1' := few_lim c1
  have c2' := few_lim c2
  obtain ⟨r, hr⟩ : ∃ r, l.getD i ([], [], []) = r := ⟨_, rfl⟩
  rw [hr] at hsi c1 c2 c3 c4 c1' c2'
  simp (contextual := true) (maxSteps := 1000000) (disch := omega) only [↓Sd, ↓So, ↓Sk, ↓den, ↓denA, Sa, Sb, Sc, Se, O1.d, O2.d, O3.d, cmI, arI, envOf, putN, ↓reduceIte, Nat.reduceLT, Nat.reduceSub, Nat.reduceAdd, Int.reduceAdd, Int.reduceEq, Int.reduceLT, Int.reduceLE, arr_pos, arr_neg, hsi]
  refine mk_TermS r.1 m (by omega) c1 fun l1 => ?_
  simp (contextual := true) (maxSteps := 1000000) (disch := omega) only [↓Sd, ↓So, ↓Sk, ↓den, ↓denA, Sa, Sb, Sc, Se, O1.d, O2.d, O3.d, cmI, arI, envOf, putN, ↓reduceIte, Nat.reduceLT, Nat.reduceSub, Nat.reduceAdd, Int.reduceAdd, Int.reduceEq, Int.reduceLT, Int.reduceLE, arr_pos, arr_neg, hsi, List.length_set, getD_set_eq, List.set_set, mk_IntS r.2.1 (m + 4 * r.1.length) (by omega) (by omega)]
  refine mk_TermSS r.2.2 _ (by omega) c3 c4 fun k' l' hk' => ?_
  simp (contextual := true) (maxSteps := 1000000) (disch := omega) only [↓Sd, ↓So, ↓Sk, ↓den, ↓denA, Sa, Sb, Sc, Se, O1.d, O2.d, O3.d, cmI, arI, envOf, putN, ↓reduceIte, Nat.reduceLT, Nat.reduceSub, Nat.reduceAdd, Int.reduceAdd, Int.reduceEq, Int.reduceLT, Int.reduceLE, arr_pos, arr_neg, hsi, List.length_set, getD_set_eq, List.set_set]
  exact ⟨(_, _), ⟨rfl, rfl⟩, ⟨by omega, by omega⟩, hs.set⟩
 ·rintro ⟨m, s⟩ ⟨⟨hm1, hm2⟩, hs⟩
  simp only at hm1 hm2 hs
  have hsl := hs.1
  simp (contextual := true) (maxSteps := 1000000) (disch := omega) only [↓Sd, ↓So, ↓Sk, ↓den, ↓denA, Sa, Sb, Sc, Se, O1.d, O2.d, O3.d, cmI, arI, envOf, putN, ↓reduceIte, Nat.reduceLT, Nat.reduceSub, Nat.reduceAdd, Int.reduceAdd, Int.reduceEq, Int.reduceLT, Int.reduceLE, arr_pos, arr_neg, ]
  exact h m s ⟨by omega, by omega⟩
theorem mk_System (s : Sy) (k : Int) (hk : 0 ≤ k ∧ k ≤ 4000000000000000000) (h : FewSy s) {Q : List AV → Prop} (hQ : ∀ k' v r, k ≤ k' ∧ k' ≤ k + 4611691515988672512 → Q [⟨I, k'⟩, ⟨L V3, v⟩, ⟨L TR, r⟩]) : mc.C f_laws_markSystem [⟨L V3, s.1⟩, ⟨L TR, s.2⟩, ⟨I, k⟩] Q := by
 obtain ⟨h1, h2, h3⟩ := h
 have h1' := few_lim h1
 refine mc.c_of F_laws_markSystem ?_
 simp (contextual := true) (maxSteps := 1000000) (disch := omega) only [↓Sd, ↓So, ↓Sk, ↓den, ↓denA, Sa, Sb, Sc, Se, O1.d, O2.d, O3.d, cmI, arI, envOf, putN, ↓reduceIte, Nat.reduceLT, Nat.reduceSub, Nat.reduceAdd, Int.reduceAdd, Int.reduceEq, Int.reduceLT, Int.reduceLE, arr_pos, arr_neg, tr_laws_markSystem]
 refine mk_VarS _ k (by omega) h1 fun l' => ?_
 simp (contextual := true) (maxSteps := 1000000) (disch := omega) only [↓Sd, ↓So, ↓Sk, ↓den, ↓denA, Sa, Sb, Sc, Se, O1.d, O2.d, O3.d, cmI, arI, envOf, putN, ↓reduceIte, Nat.reduceLT, Nat.reduceSub, Nat.reduceAdd, Int.reduceAdd, Int.reduceEq, Int.reduceLT, Int.reduceLE, arr_pos, arr_neg, ]
 refine mk_RuleS _ _ (by omega) h2 h3 fun k' r hk' => ?_
 simp (contextual := true) (maxSteps := 1000000) (disch := omega) only [↓Sd, ↓So, ↓Sk, ↓den, ↓denA, Sa, Sb, Sc, Se, O1.d, O2.d, O3.d, cmI, arI, envOf, putN, ↓reduceIte, Nat.reduceLT, Nat.reduceSub, Nat.reduceAdd, Int.reduceAdd, Int.reduceEq, Int.reduceLT, Int.reduceLE, arr_pos, arr_neg, ]
 exact hQ k' _ r ⟨by omega, by omega⟩
theorem few_i {l : List Int} (h : l.length ≤ 1048576) : Few l := h
def Lay (T : List (List Int)) (F : List Int) : Nat → Nat → Prop
 | 0, k => (k : Int) ∈ F
 | d + 1, k => Lay T F d k ∨ ∃ a, Lay T F d a ∧ (k : Int) ∈ T.getD a []
theorem least {P : Nat → Prop} (h : ∃ d, P d) : ∃ d, P d ∧ ∀ e, e < d → ¬ P e := by
 obtain ⟨d, hd⟩ := h
 induction d using Nat.strongRecOn with
 | ind d ih =>
  by_cases g : ∃ e, e < d ∧ P e
  ·obtain ⟨e, h1, h2⟩ := g; exact ih e h1 h2
  ·exact ⟨d, hd, fun e he hp => g ⟨e, he, hp⟩⟩
open Classical in
noncomputable def dst (T : List (List Int)) (F : List Int) (k : Nat) : Int := if h : ∃ d, Lay T F d k then ((Classical.choose (least h) : Nat) : Int) else -1
theorem Lay.rch {T : List (List Int)} {F : List Int} : ∀ {d k : Nat}, Lay T F d k → Rch T F k
 | 0, k, h => .base h
 | d + 1, k, h => h.elim Lay.rch fun ⟨a, h1, h2⟩ => .step (Lay.rch h1) h2
theorem rch_lay {T : List (List Int)} {F : List Int} {k : Nat} (h : Rch T F k) : ∃ d, Lay T F d k := by
 induction h with
 | base h => exact ⟨0, h⟩
 | step _ h ih => obtain ⟨d, hd⟩ := ih; exact ⟨d + 1, .inr ⟨_, hd, h⟩⟩
structure IsDst (T : List (List Int)) (F : List Int) (n : Nat) (f : Nat → Int) : Prop where
 ge : ∀ k, k < n → -1 ≤ f k
 zero : ∀ k, k < n → (f k = 0 ↔ (k : Int) ∈ F)
 pre : ∀ k, k < n → 0 < f k → ∃ a, a < n ∧ f a + 1 = f k ∧ (k : Int) ∈ T.getD a []
 nxt : ∀ a, a < n → 0 ≤ f a → ∀ k : Nat, (k : Int) ∈ T.getD a [] → 0 ≤ f k ∧ f k ≤ f a + 1
theorem IsDst.eq {T : List (List Int)} {F : List Int} {n : Nat} {f : Nat → Int} (ht : Tbl T n) (hF : ∀ x ∈ F, 0 ≤ x ∧ x < n) (h : IsDst T F n f) : ∀ k, k < n → f k = dst T F k := by
 have a1 : ∀ d k, k < n → f k = (d : Nat) → Lay T F d k := by
  intro d
  induction d with
  | zero => intro k hk h1; exact (h.zero k hk).1 h1
  | succ d ih =>
   intro k hk h1
   obtain ⟨a, b1, b2, b3⟩ := h.pre k hk (by omega)
   exact .inr ⟨a, ih a b1 (by omega), b3⟩
 have a2 : ∀ d k, Lay T F d k → k < n ∧ 0 ≤ f k ∧ f k ≤ (d : Nat) := by
  intro d
  induction d with
  | zero => intro k h1; have := hF _ h1; have hk : k < n := by omega
            have := (h.zero k hk).2 h1; exact ⟨hk, by omega, by omega⟩
  | succ d ih =>
   intro k h1
   rcases h1 with h1 | ⟨a, h1, h2⟩
   ·have := ih k h1; exact ⟨this.1, this.2.1, by omega⟩
   ·obtain ⟨b1, b2, b3⟩ := ih a h1
    have := ht.row _ h2
    have := h.nxt a b1 b2 k h2
    exact ⟨by omega, this.1, by omega⟩
 intro k hk
 unfold dst
 by_cases g : ∃ d, Lay T F d k
 ·rw [dif_pos g]
  obtain ⟨b1, b2⟩ := Classical.choose_spec (least g)
  generalize Classical.choose (least g) = d at b1 b2
  obtain ⟨-, c1, c2⟩ := a2 d k b1
  have c3 := a1 (f k).toNat k hk (by omega)
  have : ¬ (f k).toNat < d := fun hh => b2 _ hh c3
  omega
 ·rw [dif_neg g]
  have := h.ge k hk
  by_cases g2 : 0 ≤ f k
  ·exact absurd ⟨_, a1 (f k).toNat k hk (by omega)⟩ g
  ·omega
theorem dst_rch {T : List (List Int)} {F : List Int} {k : Nat} : 0 ≤ dst T F k ↔ Rch T F k := by
 unfold dst
 constructor
 ·intro h
  by_cases g : ∃ d, Lay T F d k
  ·obtain ⟨d, hd⟩ := g; exact hd.rch
  ·rw [dif_neg g] at h; omega
 ·intro h
  rw [dif_pos (rch_lay h)]; omega
structure Bfs (T : List (List Int)) (m n : Nat) (f : Nat → Int) (q : List Nat) (ex : Nat → Prop) : Prop where
 ge : ∀ k, k < n → -1 ≤ f k
 zero : ∀ k, k < n → (f k = 0 ↔ k = m)
 pre : ∀ k, k < n → 0 < f k → ∃ a, a < n ∧ f a + 1 = f k ∧ (k : Int) ∈ T.getD a []
 inq : ∀ x ∈ q, x < n ∧ 0 ≤ f x
 sorted : q.Pairwise fun a b => f a ≤ f b
 closed : ∀ a, a < n → 0 ≤ f a → a ∉ q → ¬ ex a → ∀ k : Nat, (k : Int) ∈ T.getD a [] → 0 ≤ f k ∧ f k ≤ f a + 1
 top : ∀ k, k < n → f k + cntF (fun k => decide (0 ≤ f k)) n ≤ n
theorem cntF_congr {p q : Nat → Bool} {n : Nat} (h : ∀ k, k < n → p k = q k) : cntF p n = cntF q n := by
 unfold cntF
 rw [upTo_congr fun k hk => by rw [h k hk]]
theorem Bfs.visit {T : List (List Int)} {m n x y : Nat} {f : Nat → Int} {q : List Nat} (h : Bfs T m n f q (· = x)) (hx : x < n) (hfx : 0 ≤ f x) (hy : y < n) (hfy : f y < 0) (hm : m < n) (hT : (y : Int) ∈ T.getD x []) (hb : ∀ k, k < n → f k ≤ f x + 1) :
  Bfs T m n (fun k => if k = y then f x + 1 else f k) (q ++ [y]) (· = x) ∧ cntF (fun k => decide (0 ≤ (if k = y then f x + 1 else f k))) n + 1 = cntF (fun k => decide (0 ≤ f k)) n := by
 have hxy : ¬ x = y := by rintro rfl; omega
 have hc : cntF (fun k => decide (0 ≤ (if k = y then f x + 1 else f k))) n + 1 = cntF (fun k => decide (0 ≤ f k)) n := by
  have := cntF_set (p := fun k => decide (0 ≤ f k)) (j := y) (by simp; omega) (n := n) hy
  rw [← this]
  congr 1
  refine cntF_congr fun k _ => ?_
  by_cases g : k = y
  ·simp [g]; omega
  ·simp [g]
 refine ⟨⟨fun k hk => ?_, fun k hk => ?_, fun k hk h1 => ?_, fun z hz => ?_, ?_, fun a ha h1 h2 h3 k hk => ?_, fun k hk => ?_⟩, hc⟩
 ·have := h.ge k hk; split <;> omega
 ·have := h.zero k hk
  have := h.zero m hm
  split
  ·rename_i g; subst g
   constructor
   ·intro h1; omega
   ·intro h1; subst h1; omega
  ·assumption
 ·by_cases g : k = y
  ·subst g
   exact ⟨x, hx, by simp [hxy], hT⟩
  ·simp only [g, if_false] at h1 ⊢
   obtain ⟨a, b1, b2, b3⟩ := h.pre k hk h1
   have : ¬ a = y := by rintro rfl; omega
   exact ⟨a, b1, by simp [this, b2], b3⟩
 ·rcases List.mem_append.1 hz with hz | hz
  ·have := h.inq z hz
   refine ⟨this.1, ?_⟩
   split <;> omega
  ·simp only [List.mem_singleton] at hz
   subst hz
   exact ⟨hy, by simp; omega⟩
 ·refine List.pairwise_append.2 ⟨?_, List.pairwise_singleton _ _, ?_⟩
  ·refine h.sorted.imp_of_mem ?_
   intro a b ha hb2 hab
   have h1 := (h.inq a ha).2
   have h2 := (h.inq b hb2).2
   have e1 : ¬ a = y := by rintro rfl; omega
   have e2 : ¬ b = y := by rintro rfl; omega
   simp only [e1, e2, if_false]; exact hab
  ·intro a ha b hb2
   simp only [List.mem_singleton] at hb2
   subst hb2
   have h1 := h.inq a ha
   have e1 : ¬ a = b := by rintro rfl; omega
   simp only [e1, if_false, if_true]
   exact hb a h1.1
 ·simp only [List.mem_append, List.mem_singleton, not_or] at h2
  have e1 : ¬ a = y := h2.2
  simp only [e1, if_false] at h1 ⊢
  have := h.closed a ha h1 h2.1 h3 k hk
  have e2 : ¬ k = y := by rintro rfl; omega
  simp only [e2, if_false]; exact this
 ·have := h.top k hk
  have := h.top x hx
  split <;> omega
structure Rnd (T : List (List Int)) (p : Nat → Bool) (n : Nat) (d a0 C : Nat) (ag : Bool) (f : Nat → Int) : Prop where
 ge : ∀ k, k < n → -1 ≤ f k
 zero : ∀ k, k < n → (f k = 0 ↔ p k = true)
 pre : ∀ k, k < n → 0 < f k → ∃ a, a < n ∧ f a + 1 = f k ∧ (k : Int) ∈ T.getD a []
 le : ∀ k, k < n → f k ≤ (d : Int) + 1
 closed : ∀ a, a < n → 0 ≤ f a → (f a < d ∨ f a = d ∧ a < a0) → ∀ k : Nat, (k : Int) ∈ T.getD a [] → 0 ≤ f k ∧ f k ≤ f a + 1
 none : ag = false → ∀ k, k < n → f k ≤ d
 cnt : cntF (fun k => decide (0 ≤ f k)) n ≤ C
 less : ag = true → cntF (fun k => decide (0 ≤ f k)) n < C
theorem Rnd.visit {T : List (List Int)} {p : Nat → Bool} {n d a0 C y : Nat} {ag : Bool} {f : Nat → Int} (h : Rnd T p n d a0 C ag f) (ha : a0 < n) (hfa : f a0 = d) (hy : y < n) (hfy : f y < 0) (hT : (y : Int) ∈ T.getD a0 []) :
  Rnd T p n d a0 C true (fun k => if k = y then (d : Int) + 1 else f k) := by
 have hay : ¬ a0 = y := by rintro rfl; omega
 have hc : cntF (fun k => decide (0 ≤ (if k = y then (d : Int) + 1 else f k))) n + 1 = cntF (fun k => decide (0 ≤ f k)) n := by
  have := cntF_set (p := fun k => decide (0 ≤ f k)) (j := y) (by simp; omega) (n := n) hy
  rw [← this]
  congr 1
  refine cntF_congr fun k _ => ?_
  by_cases g : k = y
  ·simp [g]; omega
  ·simp [g]
 have hcn := h.cnt
 refine ⟨fun k hk => ?_, fun k hk => ?_, fun k hk h1 => ?_, fun k hk => ?_, fun a h1 h2 h3 k hk => ?_, fun g => (by cases g), by omega, fun _ => by omega⟩
 ·have := h.ge k hk; split <;> omega
 ·have := h.zero k hk
  split
  ·rename_i g; subst g
   constructor
   ·intro h1; omega
   ·intro h1; have := this.2 h1; omega
  ·exact this
 ·by_cases g : k = y
  ·subst g
   exact ⟨a0, ha, by simp [hay, hfa], hT⟩
  ·simp only [g, if_false] at h1 ⊢
   obtain ⟨a, b1, b2, b3⟩ := h.pre k hk h1
   have : ¬ a = y := by rintro rfl; omega
   exact ⟨a, b1, by simp [this, b2], b3⟩
 ·have := h.le k hk; split <;> omega
 ·by_cases e1 : a = y
  ·simp only [e1, if_true] at h3; omega
  ·simp only [e1, if_false] at h2 h3 ⊢
   have := h.closed a h1 h2 h3 k hk
   have e2 : ¬ k = y := by rintro rfl; omega
   simp only [e2, if_false]; exact this
theorem Rnd.skip {T : List (List Int)} {p : Nat → Bool} {n d a0 C : Nat} {ag : Bool} {f : Nat → Int} (h : Rnd T p n d a0 C ag f) (ht : Tbl T n) (hx : f a0 = d → ∀ k : Nat, (k : Int) ∈ T.getD a0 [] → 0 ≤ f k) : Rnd T p n d (a0 + 1) C ag f := by
 refine ⟨h.ge, h.zero, h.pre, h.le, fun a h1 h2 h3 k hk => ?_, h.none, h.cnt, h.less⟩
 by_cases e : a = a0
 ·subst e
  rcases h3 with h3 | h3
  ·exact h.closed a h1 h2 (.inl h3) k hk
  ·have h4 := ht.row _ hk
   have h5 := h.le k (by omega)
   exact ⟨hx h3.1 k hk, by omega⟩
 ·refine h.closed a h1 h2 (h3.imp_right fun h4 => ⟨h4.1, ?_⟩) k hk
  omega
theorem C_spec_l5Steps (T : List (List Int)) (p : Nat → Bool) (F : List Int) (n : Nat) (hn : n ≤ 1000) (ht : Tbl T n) (hF : ∀ x ∈ F, 0 ≤ x ∧ x < n) (hp : ∀ k, k < n → (p k = true ↔ (k : Int) ∈ F)) (Q : List AV → Prop) :
  mc.C f_spec_l5Steps [⟨L (L I), T⟩, ⟨L B, tab p n⟩] Q = Q [⟨L I, tab (dst T F) n⟩] := by
 have hl := ht.1
 refine Mc.Ends.c (mc.ends F_spec_l5Steps ?_)
 simp (contextual := true) (maxSteps := 1000000) (disch := omega) only [↓Sd, ↓So, ↓Sk, ↓den, ↓denA, Sa, Sb, Sc, Se, O1.d, O2.d, O3.d, cmI, arI, envOf, putN, ↓reduceIte, Nat.reduceLT, Nat.reduceSub, Nat.reduceAdd, Int.reduceAdd, Int.reduceEq, Int.reduceLT, Int.reduceLE, arr_pos, arr_neg, tr_spec_l5Steps]
 refine mc.lp_for (List Int) (fun i o => [⟨L (L I), T⟩, ⟨L B, tab p n⟩, ⟨I, (i : Int)⟩, ⟨L I, o⟩]) (fun i o => o = tab (fun k => if p k = true then 0 else -1) i) n 0 [] _ rfl (Nat.zero_le _) rfl ?_ ?_
 ·rintro i o hi rfl
  simp (contextual := true) (maxSteps := 1000000) (disch := omega) only [↓Sd, ↓So, ↓Sk, ↓den, ↓denA, Sa, Sb, Sc, Se, O1.d, O2.d, O3.d, cmI, arI, envOf, putN, ↓reduceIte, Nat.reduceLT, Nat.reduceSub, Nat.reduceAdd, Int.reduceAdd, Int.reduceEq, Int.reduceLT, Int.reduceLE, arr_pos, arr_neg, ↓wpJoin, hl, tab_len, tab_get hi]
  refine ⟨fun g => ?_, fun g => ?_⟩
  ·rw [← tab_next]; simp [g]
  ·rw [← tab_next]; simp [g]
 rintro o rfl
 obtain ⟨f0, hf0⟩ : ∃ f0 : Nat → Int, (fun k => if p k = true then (0 : Int) else -1) = f0 := ⟨_, rfl⟩
 have h0 : ∀ k, (p k = true → f0 k = 0) ∧ (¬ p k = true → f0 k = -1) := fun k => by rw [← hf0]; exact ⟨fun g => by simp [g], fun g => by simp [g]⟩
 rw [hf0]
 clear hf0
 simp (contextual := true) (maxSteps := 1000000) (disch := omega) only [↓Sd, ↓So, ↓Sk, ↓den, ↓denA, Sa, Sb, Sc, Se, O1.d, O2.d, O3.d, cmI, arI, envOf, putN, ↓reduceIte, Nat.reduceLT, Nat.reduceSub, Nat.reduceAdd, Int.reduceAdd, Int.reduceEq, Int.reduceLT, Int.reduceLE, arr_pos, arr_neg, hl]
 refine mc.lp_inv (fun j us => ∃ (f : Nat → Int) (ag : Bool) (d : Nat), us = [⟨L (L I), T⟩, ⟨B, ag⟩, ⟨I, (d : Int)⟩, ⟨L I, tab f n⟩] ∧ (∀ k, k < n → -1 ≤ f k) ∧ (∀ k, k < n → (f k = 0 ↔ p k = true)) ∧ (∀ k, k < n → 0 < f k → ∃ a, a < n ∧ f a + 1 = f k ∧ (k : Int) ∈ T.getD a []) ∧
  (∀ a, a < n → 0 ≤ f a → f a < d → ∀ k : Nat, (k : Int) ∈ T.getD a [] → 0 ≤ f k ∧ f k ≤ f a + 1) ∧ (∀ k, k < n → f k ≤ d) ∧ (ag = false → ∀ k, k < n → f k < d) ∧ (ag = true → d + cntF (fun k => decide (0 ≤ f k)) n ≤ n) ∧
  j = if ag = true then cntF (fun k => decide (0 ≤ f k)) n + 1 else 0) _ _ ⟨f0, true, 0, rfl, fun k _ => ?_, fun k _ => ?_, fun k _ h => ?_, fun a _ h1 h2 => (by omega), fun k _ => ?_, fun g => (by cases g), fun _ => ?_, rfl⟩ ?_
 ·have := h0 k
  by_cases g : p k = true
  ·have := this.1 g; omega
  ·have := this.2 g; omega
 ·have := h0 k
  by_cases g : p k = true
  ·simp [g, this.1 g]
  ·simp [g, this.2 g]
 ·have := h0 k
  by_cases g : p k = true
  ·have := this.1 g; omega
  ·have := this.2 g; omega
 ·have := h0 k
  by_cases g : p k = true
  ·have := this.1 g; omega
  ·have := this.2 g; omega
 ·have : cntF (fun k => decide (0 ≤ f0 k)) n ≤ n := cntF_le
  omega
 rintro j us ⟨f, ag, d, rfl, i1, i2, i3, i4, i5, i6, i7, rfl⟩
 cases ag with
 | false =>
  simp (contextual := true) (maxSteps := 1000000) (disch := omega) only [↓Sd, ↓So, ↓Sk, ↓den, ↓denA, Sa, Sb, Sc, Se, O1.d, O2.d, O3.d, cmI, arI, envOf, putN, ↓reduceIte, Nat.reduceLT, Nat.reduceSub, Nat.reduceAdd, Int.reduceAdd, Int.reduceEq, Int.reduceLT, Int.reduceLE, arr_pos, arr_neg, ]
  exact tab_congr (IsDst.eq ht hF ⟨i1, fun k hk => by rw [i2 k hk, hp k hk], i3, fun a ha h1 k hk => i4 a ha h1 (i6 rfl a ha) k hk⟩)
 | true =>
  have i7 := i7 rfl
  simp (contextual := true) (maxSteps := 1000000) (disch := omega) only [↓Sd, ↓So, ↓Sk, ↓den, ↓denA, Sa, Sb, Sc, Se, O1.d, O2.d, O3.d, cmI, arI, envOf, putN, ↓reduceIte, Nat.reduceLT, Nat.reduceSub, Nat.reduceAdd, Int.reduceAdd, Int.reduceEq, Int.reduceLT, Int.reduceLE, arr_pos, arr_neg, ]
  generalize hC : cntF (fun k => decide (0 ≤ f k)) n = C at *
  refine mc.lp_for ((Nat → Int) × Bool) (fun a s => [⟨L (L I), T⟩, ⟨B, s.2⟩, ⟨I, (d : Int)⟩, ⟨I, (a : Int)⟩, ⟨L I, tab s.1 n⟩]) (fun a s => Rnd T p n d a C s.2 s.1) n 0 (f, false) _ rfl (Nat.zero_le _)
   ⟨i1, i2, i3, fun k hk => Int.le_trans (i5 k hk) (by omega), fun a ha h1 h2 k hk => i4 a ha h1 (h2.elim id fun h => by omega) k hk, fun _ => i5, by rw [hC]; exact Nat.le_refl _, fun g => (by cases g)⟩ ?_ ?_
  ·rintro a0 ⟨f1, ag1⟩ ha0 hR
   simp only at hR
   obtain ⟨row, hr⟩ : ∃ row, T.getD a0 [] = row := ⟨_, rfl⟩
   have hrow := ht.row (i := a0)
   have hrl : (T.getD a0 []).length ≤ 1048576 := (ht.2 _ (getD_mem (by omega))).1
   rw [hr] at hrow hrl
   simp (contextual := true) (maxSteps := 1000000) (disch := omega) only [↓Sd, ↓So, ↓Sk, ↓den, ↓denA, Sa, Sb, Sc, Se, O1.d, O2.d, O3.d, cmI, arI, envOf, putN, ↓reduceIte, Nat.reduceLT, Nat.reduceSub, Nat.reduceAdd, Int.reduceAdd, Int.reduceEq, Int.reduceLT, Int.reduceLE, arr_pos, arr_neg, hl]
   refine mc.lp_for ((Nat → Int) × Bool) (fun i s => [⟨L (L I), T⟩, ⟨B, s.2⟩, ⟨I, (d : Int)⟩, ⟨I, (a0 : Int)⟩, ⟨I, (i : Int)⟩, ⟨L I, tab s.1 n⟩]) (fun i s => Rnd T p n d a0 C s.2 s.1 ∧ ∀ k : Nat, (k : Int) ∈ row.take i → s.1 a0 = d → 0 ≤ s.1 k) row.length 0 (f1, ag1) _ rfl (Nat.zero_le _) ⟨hR, by simp⟩ ?_ ?_
   ·rintro i ⟨f2, ag2⟩ hi ⟨b1, b2⟩
    simp only at b1 b2
    have hy := hrow _ (getD_mem (d := 0) hi)
    obtain ⟨y, hy2⟩ : ∃ y : Nat, row.getD i 0 = y := ⟨(row.getD i 0).toNat, by omega⟩
    have hyn : y < n := by omega
    have hwr : IntKind.i64.wrap ((d : Int) + 1) = (d : Int) + 1 := wrap_id (by omega) (by omega)
    simp (contextual := true) (maxSteps := 1000000) (disch := omega) only [↓Sd, ↓So, ↓Sk, ↓den, ↓denA, Sa, Sb, Sc, Se, O1.d, O2.d, O3.d, cmI, arI, envOf, putN, ↓reduceIte, Nat.reduceLT, Nat.reduceSub, Nat.reduceAdd, Int.reduceAdd, Int.reduceEq, Int.reduceLT, Int.reduceLE, arr_pos, arr_neg, ↓wpJoin, hl, hr, hy2, tab_len, tab_get hyn, tab_get ha0, Int.toNat_natCast, tab_set', hwr]
    refine ⟨fun g => ⟨fun g2 => ?_, fun g2 => ?_⟩, fun g => ?_⟩
    ·have hv := b1.visit ha0 g hyn g2 (by rw [hr, ← hy2]; exact getD_mem hi)
     refine ⟨(fun k => if k = y then (d : Int) + 1 else f2 k, true), ⟨rfl, rfl⟩, hv, fun k hk h3 => ?_⟩
     simp only []
     split
     ·omega
     ·rename_i hky
      rcases (mem_take_next hi).1 hk with h | h
      ·exact b2 k h g
      ·exact absurd (by omega) hky
    ·refine ⟨(f2, ag2), ⟨rfl, rfl⟩, b1, fun k hk h3 => ?_⟩
     rcases (mem_take_next hi).1 hk with h | h
     ·exact b2 k h h3
     ·rw [show k = y by omega]; simp only []; omega
    ·exact ⟨(f2, ag2), ⟨rfl, rfl⟩, b1.skip ht fun h => absurd h g⟩
   ·rintro ⟨f2, ag2⟩ ⟨b1, b2⟩
    rw [List.take_length] at b2
    simp only at b1 b2
    simp (contextual := true) (maxSteps := 1000000) (disch := omega) only [↓Sd, ↓So, ↓Sk, ↓den, ↓denA, Sa, Sb, Sc, Se, O1.d, O2.d, O3.d, cmI, arI, envOf, putN, ↓reduceIte, Nat.reduceLT, Nat.reduceSub, Nat.reduceAdd, Int.reduceAdd, Int.reduceEq, Int.reduceLT, Int.reduceLE, arr_pos, arr_neg, hl, hr]
    exact ⟨(f2, ag2), ⟨rfl, rfl⟩, b1.skip ht fun h k hk => b2 k (by rw [← hr]; exact hk) h⟩
  ·rintro ⟨f1, ag1⟩ hR
   simp only at hR
   have hwr : IntKind.i64.wrap ((d : Int) + 1) = (d : Int) + 1 := wrap_id (by omega) (by omega)
   simp (contextual := true) (maxSteps := 1000000) (disch := omega) only [↓Sd, ↓So, ↓Sk, ↓den, ↓denA, Sa, Sb, Sc, Se, O1.d, O2.d, O3.d, cmI, arI, envOf, putN, ↓reduceIte, Nat.reduceLT, Nat.reduceSub, Nat.reduceAdd, Int.reduceAdd, Int.reduceEq, Int.reduceLT, Int.reduceLE, arr_pos, arr_neg, hl, hwr]
   have hcnt := hR.cnt
   refine ⟨_, ?_, f1, ag1, d + 1, ⟨rfl, by rw [Int.natCast_add]; rfl, rfl⟩, hR.ge, hR.zero, hR.pre, fun a ha h1 h2 k hk => hR.closed a ha h1 ?_ k hk, fun k hk => ?_, fun g k hk => ?_, fun g => ?_, rfl⟩
   ·cases ag1 with
    | true => have := hR.less rfl; simp only [if_true]; omega
    | false => simp
   ·by_cases g : f1 a < d
    ·exact .inl g
    ·exact .inr ⟨by omega, ha⟩
   ·have := hR.le k hk; omega
   ·have := hR.none g k hk; omega
   ·have := hR.less g; omega
theorem Rch.trans {T : List (List Int)} {a b c : Nat} (h : Rch T [(a : Int)] b) (h2 : Rch T [(b : Int)] c) : Rch T [(a : Int)] c := by
 induction h2 with
 | base h3 => simp only [List.mem_singleton] at h3; have h3 := Int.ofNat_inj.1 h3; subst h3; exact h
 | step _ h3 ih => exact .step ih h3
theorem C_spec_l5Told (f : Nat → Int) (n : Nat) (hn : n ≤ 1048576) (Q : List AV → Prop) : mc.C f_spec_l5Told [⟨L I, tab f n⟩] Q = Q [⟨L B, tab (fun k => decide (f k ≥ 0)) n⟩] := by
 refine Mc.Ends.c (mc.ends F_spec_l5Told ?_)
 have hl : (tab f n).length = n := tab_len
 simp (contextual := true) (maxSteps := 1000000) (disch := omega) only [↓Sd, ↓So, ↓Sk, ↓den, ↓denA, Sa, Sb, Sc, Se, O1.d, O2.d, O3.d, cmI, arI, envOf, putN, ↓reduceIte, Nat.reduceLT, Nat.reduceSub, Nat.reduceAdd, Int.reduceAdd, Int.reduceEq, Int.reduceLT, Int.reduceLE, arr_pos, arr_neg, tr_spec_l5Told, hl]
 refine mc.lp_for (List Bool) (fun i o => [⟨L I, tab f n⟩, ⟨I, (i : Int)⟩, ⟨L B, o⟩]) (fun i o => o = tab (fun k => if k < i then decide (f k ≥ 0) else false) n) n 0 (List.replicate n false) _ rfl (Nat.zero_le _) ?_ ?_ ?_
 ·rw [rep_tab]; rfl
 ·rintro i o hi rfl
  simp (contextual := true) (maxSteps := 1000000) (disch := omega) only [↓Sd, ↓So, ↓Sk, ↓den, ↓denA, Sa, Sb, Sc, Se, O1.d, O2.d, O3.d, cmI, arI, envOf, putN, ↓reduceIte, Nat.reduceLT, Nat.reduceSub, Nat.reduceAdd, Int.reduceAdd, Int.reduceEq, Int.reduceLT, Int.reduceLE, arr_pos, arr_neg, hl, tab_len, tab_get hi, tab_set']
  refine tab_congr fun k _ => ?_
  by_cases e : k = i
  ·subst e; rw [if_pos rfl, if_pos (by omega)]
  ·rw [if_neg e]
   by_cases e2 : k < i
   ·rw [if_pos e2, if_pos (by omega)]
   ·rw [if_neg e2, if_neg (by omega)]
 ·rintro o rfl
  simp (contextual := true) (maxSteps := 1000000) (disch := omega) only [↓Sd, ↓So, ↓Sk, ↓den, ↓denA, Sa, Sb, Sc, Se, O1.d, O2.d, O3.d, cmI, arI, envOf, putN, ↓reduceIte, Nat.reduceLT, Nat.reduceSub, Nat.reduceAdd, Int.reduceAdd, Int.reduceEq, Int.reduceLT, Int.reduceLE, arr_pos, arr_neg, hl]
  exact tab_congr fun k hk => if_pos hk
def fst1 (p : Nat → Bool) : Nat → Int
 | 0 => -1
 | n + 1 => if 0 ≤ fst1 p n then fst1 p n else if p n = true then (n : Int) else -1
def rbt (s : Sy) (a b : List Int) : Int := fst1 (fun r => decide (useM s.1 (s.2.getD r ([], [], [])) a ≠ [] ∧ useM s.1 (s.2.getD r ([], [], [])) a = b)) s.2.length
structure IsRun (s : Sy) (D : Nat) (f : Nat → List Int) : Prop where
 few : D < 500
 first : f 0 = fst0 s.1
 inr : ∀ e, e ≤ D → inR s.1 (f e)
 rule : ∀ e, e < D → 0 ≤ rbt s (f e) (f (e + 1))
theorem IsRun.len {s : Sy} {D : Nat} {f : Nat → List Int} (hv : valid s) (h : IsRun s D f) {e : Nat} (he : e ≤ D) : (f e).length ≤ 1048576 := by
 have := (h.inr e he).1
 have := hv.1.2
 omega
def SmSS (l : List (List Int)) : Prop := l.length ≤ 4000 ∧ ∀ x ∈ l, x.length ≤ 4000
theorem SmSS.row {l : List (List Int)} (h : SmSS l) (i : Nat) : (l.getD i []).length ≤ 4000 := by
 by_cases hi : i < l.length
 ·exact h.2 _ (getD_mem hi)
 ·rw [List.getD_eq_getElem?_getD, List.getElem?_eq_none (by omega)]; simp
def FewSS (F : List (List Tm)) : Prop := Few F ∧ ∀ x ∈ F, Few x
theorem FewSS.row {F : List (List Tm)} (h : FewSS F) (i : Nat) : Few (F.getD i []) := by
 by_cases hi : i < F.length
 ·exact h.2 _ (getD_mem hi)
 ·rw [List.getD_eq_getElem?_getD, List.getElem?_eq_none (by omega)]; simp [Few]
noncomputable def canL (s : Sy) (l : List Int) : List Int := if setV s l then upTo (fun k => dB (Rch (pasts (steps s) (szn s.1)) l k)) (szn s.1) else []
theorem canL_len {s : Sy} {l : List Int} : (canL s l).length ≤ 400 := by
 unfold canL
 split
 ·rename_i h
  have := (szn_eq h.1).2.2
  exact Nat.le_trans upTo_len this
 ·simp
theorem rch_to {T U : List (List Int)} {F : List Int} {n : Nat} (ht : Tbl T n) (h : ∀ a k : Nat, a < n → k < n → (k : Int) ∈ T.getD a [] → (k : Int) ∈ U.getD a []) {k : Nat} (hr : Rch T F k) : Rch U F k := by
 induction hr with
 | base h => exact .base h
 | @step a k _ h2 ih =>
  have h3 := ht.row _ h2
  have ha : a < n := by
   rcases Nat.lt_or_ge a n with h4 | h4
   ·exact h4
   ·have : T.getD a [] = [] := by rw [List.getD_eq_getElem?_getD, List.getElem?_eq_none (by rw [ht.1]; exact h4)]; rfl
    rw [this] at h2; cases h2
  exact .step ih (h a k ha (by omega) h2)
theorem rch_pt {T : List (List Int)} {F : List Int} {n k : Nat} (hn : n ≤ 1000) (h8 : Tb8 T n) : Rch (pasts T n) F k ↔ Rch (turned T n) F k := by
 have h1 := pasts_tbl h8
 have h2 := turned_tbl (T := T) (n := n) (by omega)
 constructor
 ·refine rch_to h1 fun a k ha hk h => ?_
  exact (turned_get ha).2 ⟨hk, (Ed_pasts ha hk).1 h⟩
 ·refine rch_to h2 fun a k ha hk h => ?_
  exact (Ed_pasts ha hk).2 ((turned_get ha).1 h).2
theorem C_spec_CanReach (s : Sy) (l : List Int) (hs : FewSy s) (hf : Few l) (Q : List AV → Prop) : mc.C f_spec_CanReach [⟨L V3, s.1⟩, ⟨L TR, s.2⟩, ⟨L I, l⟩] Q = Q [⟨L I, canL s l⟩] := by
 refine Mc.Ends.c (mc.ends F_spec_CanReach ?_)
 have hfl : l.length ≤ 1048576 := hf
 by_cases h : setV s l
 ·have hv := h.1
  have hz := szn_eq hv
  have ht := steps_tbl hv
  have htt := turned_tbl (T := steps s) (n := szn s.1) (by omega)
  have e : canL s l = upTo (fun k => decide (dst (turned (steps s) (szn s.1)) l k ≥ 0)) (szn s.1) := by
   rw [canL, if_pos h]
   refine upTo_congr fun k _ => ?_
   rw [← dB_eq]
   exact dB_congr ((rch_pt (by omega) (steps_tb8 hv)).trans dst_rch.symm)
  rw [e]
  simp (contextual := true) (maxSteps := 1000000) (disch := omega) only [↓Sd, ↓So, ↓Sk, ↓den, ↓denA, Sa, Sb, Sc, Se, O1.d, O2.d, O3.d, cmI, arI, envOf, putN, ↓reduceIte, Nat.reduceLT, Nat.reduceSub, Nat.reduceAdd, Int.reduceAdd, Int.reduceEq, Int.reduceLT, Int.reduceLE, arr_pos, arr_neg, tr_spec_CanReach, C_spec_SetValid s l hs hfl, decide_eq_true h, C_spec_l4Steps s hs hv, C_spec_l5Turned (steps s) (szn s.1) (by omega) ht, C_spec_SizeOf s hs, if_pos hv, C_spec_l4Marks_i l (sz s.1) (szn s.1) hz.1.symm (by omega) hfl h.mem,
   C_spec_l5Steps (turned (steps s) (szn s.1)) _ l (szn s.1) (by omega) htt h.mem (fun k _ => dB_iff), C_spec_l5Told _ (szn s.1) (by omega : szn s.1 ≤ 1048576), C_spec_l4List_tab _ (szn s.1) (by omega : szn s.1 ≤ 1048576)]
 ·simp (contextual := true) (maxSteps := 1000000) (disch := omega) only [↓Sd, ↓So, ↓Sk, ↓den, ↓denA, Sa, Sb, Sc, Se, O1.d, O2.d, O3.d, cmI, arI, envOf, putN, ↓reduceIte, Nat.reduceLT, Nat.reduceSub, Nat.reduceAdd, Int.reduceAdd, Int.reduceEq, Int.reduceLT, Int.reduceLE, arr_pos, arr_neg, tr_spec_CanReach, C_spec_SetValid s l hs hfl, decide_eq_false h]
  rw [canL, if_neg h]
theorem C_impl_CanReach (s : Sy) (l : List Int) (hs : FewSy s) (hf : Few l) (Q : List AV → Prop) : mc.C f_impl_CanReach [⟨L V3, s.1⟩, ⟨L TR, s.2⟩, ⟨L I, l⟩] Q = Q [⟨L I, canL s l⟩] := by
 refine Mc.Ends.c (mc.ends F_impl_CanReach ?_)
 have hfl : l.length ≤ 1048576 := hf
 by_cases h : setV s l
 ·have hv := h.1
  have hz := szn_eq hv
  have ht8 := steps_tb8 hv
  have hp := pasts_tbl ht8
  simp (contextual := true) (maxSteps := 1000000) (disch := omega) only [↓Sd, ↓So, ↓Sk, ↓den, ↓denA, Sa, Sb, Sc, Se, O1.d, O2.d, O3.d, cmI, arI, envOf, putN, ↓reduceIte, Nat.reduceLT, Nat.reduceSub, Nat.reduceAdd, Int.reduceAdd, Int.reduceEq, Int.reduceLT, Int.reduceLE, arr_pos, arr_neg, tr_impl_CanReach, C_impl_SetValid s l hs hfl, decide_eq_true h, C_impl_nexts s hv, C_impl_pasts (steps s) (szn s.1) ht8, C_impl_reach_a (pasts (steps s) (szn s.1)) l (szn s.1) (by omega) hp h.mem (by have := h.len; omega), C_impl_listOf_tab _ (szn s.1) (by omega : szn s.1 ≤ 1048576)]
  rw [canL, if_pos h]
 ·simp (contextual := true) (maxSteps := 1000000) (disch := omega) only [↓Sd, ↓So, ↓Sk, ↓den, ↓denA, Sa, Sb, Sc, Se, O1.d, O2.d, O3.d, cmI, arI, envOf, putN, ↓reduceIte, Nat.reduceLT, Nat.reduceSub, Nat.reduceAdd, Int.reduceAdd, Int.reduceEq, Int.reduceLT, Int.reduceLE, arr_pos, arr_neg, tr_impl_CanReach, C_impl_SetValid s l hs hfl, decide_eq_false h]
  rw [canL, if_neg h]
theorem law_FnExactCanReach (s : Sy) (l : List Int) (hs : LtSy s) (hl : Lt63 l) : mc.C f_laws_FnExactCanReach [⟨L V3, s.1⟩, ⟨L TR, s.2⟩, ⟨L I, l⟩] (· = [⟨B, true⟩]) := by
 refine mc.c_of F_laws_FnExactCanReach ?_
 simp (contextual := true) (maxSteps := 1000000) (disch := omega) only [↓Sd, ↓So, ↓Sk, ↓den, ↓denA, Sa, Sb, Sc, Se, O1.d, O2.d, O3.d, cmI, arI, envOf, putN, ↓reduceIte, Nat.reduceLT, Nat.reduceSub, Nat.reduceAdd, Int.reduceAdd, Int.reduceEq, Int.reduceLT, Int.reduceLE, arr_pos, arr_neg, tr_laws_FnExactCanReach]
 intro h1
 refine sz_System s _ (by omega) hs fun j h2 h3 => ?_
 simp (contextual := true) (maxSteps := 1000000) (disch := omega) only [↓Sd, ↓So, ↓Sk, ↓den, ↓denA, Sa, Sb, Sc, Se, O1.d, O2.d, O3.d, cmI, arI, envOf, putN, ↓reduceIte, Nat.reduceLT, Nat.reduceSub, Nat.reduceAdd, Int.reduceAdd, Int.reduceEq, Int.reduceLT, Int.reduceLE, arr_pos, arr_neg, ]
 intro h4
 have hs := h3 (by omega)
 have hf : Few l := by unfold Few; omega
 have hr := @canL_len s l
 simp (contextual := true) (maxSteps := 1000000) (disch := omega) only [↓Sd, ↓So, ↓Sk, ↓den, ↓denA, Sa, Sb, Sc, Se, O1.d, O2.d, O3.d, cmI, arI, envOf, putN, ↓reduceIte, Nat.reduceLT, Nat.reduceSub, Nat.reduceAdd, Int.reduceAdd, Int.reduceEq, Int.reduceLT, Int.reduceLE, arr_pos, arr_neg, to_System s hs, to_IntS l hf, C_spec_CanReach s l hs hf, C_impl_CanReach s l hs hf, eq_IntS (canL s l) (few_i (by omega)), eq_System s hs, eq_IntS l hf]
 refine mk_System s 1 (by omega) hs fun k' v r hk' => ?_
 simp (contextual := true) (maxSteps := 1000000) (disch := omega) only [↓Sd, ↓So, ↓Sk, ↓den, ↓denA, Sa, Sb, Sc, Se, O1.d, O2.d, O3.d, cmI, arI, envOf, putN, ↓reduceIte, Nat.reduceLT, Nat.reduceSub, Nat.reduceAdd, Int.reduceAdd, Int.reduceEq, Int.reduceLT, Int.reduceLE, arr_pos, arr_neg, mk_IntS l k' (by omega) hf, eq_IntS (canL s l) (few_i (by omega)), mk_IntS (canL s l) 1 (by omega) (by omega), held_IntS (canL s l).length 1 (by omega) (by omega), to_System s hs, to_IntS l hf, C_impl_CanReach s l hs hf]
end Go.Proofs.YthapopegchnhlaaGreat
