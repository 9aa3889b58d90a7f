/- What the trees come to: plain mathematics; no condition. -/
import Derived.Test.YthapopegchnhlaaGreatSmTrees0
namespace Go.Proofs.YthapopegchnhlaaGreat
open Go Go.Sm Go.Sm.Q
set_option linter.unusedSimpArgs false
set_option linter.unusedVariables false
abbrev Tm := Int × Int × Int × Int
abbrev Vr := Int × Int × Int
abbrev Ru := List Tm × List Int × List (List Tm)
abbrev Sy := List Vr × List Ru
def Few {α : Type} (l : List α) : Prop := l.length ≤ 1048576
theorem getD_lt {α : Type} {l : List α} {i : Nat} {d : α} (h : i < l.length) : l.getD i d = l[i] := by simp [h]
theorem getD_mem {α : Type} {l : List α} {i : Nat} {d : α} (h : i < l.length) : l.getD i d ∈ l := by rw [getD_lt h]; exact List.getElem_mem h
theorem set_next {α : Type} (l m : List α) (z : α) (i : Nat) (hi : i < l.length) : (l.take i ++ List.replicate (l.length - i) z).set i (l.getD i z) = l.take (i + 1) ++ List.replicate (l.length - (i + 1)) z := by
 apply List.ext_getElem
 ·simp; omega
 ·intro j h1 h2
  simp only [List.length_set, List.length_append, List.length_take, List.length_replicate] at h1
  rw [List.getElem_set]
  by_cases hj : i = j
  ·subst hj; simp [List.getElem_append, hi]; omega
  ·rw [if_neg hj, List.getElem_append, List.getElem_append]
   simp only [List.length_take, List.getElem_take, List.getElem_replicate]
   by_cases h3 : j < i
   ·rw [dif_pos (by omega), dif_pos (by omega)]
   ·rw [dif_neg (by omega), dif_neg (by omega)]
theorem lp_copy {M : Mc} (t : Ty) {b : Tr} {Q : Out → Prop} (l : List t.D)
  (hb : ∀ (i : Nat) (s : List t.D), i < l.length → s.length = l.length → M.wp b (envOf [⟨L t, l⟩, ⟨I, (i : Int)⟩, ⟨L t, s⟩]) (onJ (fun us => us = [⟨L t, l⟩, ⟨I, (i : Int) + 1⟩, ⟨L t, s.set i (l.getD i t.z)⟩]) Q))
  (he : M.wp b (envOf [⟨L t, l⟩, ⟨I, (l.length : Int)⟩, ⟨L t, l⟩]) (onJ (fun _ => False) Q)) : M.LP b [⟨L t, l⟩, ⟨I, (0 : Int)⟩, ⟨L t, List.replicate l.length t.z⟩] Q := by
 refine M.lp_for (List t.D) (fun i s => [⟨L t, l⟩, ⟨I, (i : Int)⟩, ⟨L t, s⟩]) (fun i s => s = l.take i ++ List.replicate (l.length - i) t.z) l.length 0 (List.replicate l.length t.z) _ rfl (Nat.zero_le _) (by simp) ?_ ?_
 ·rintro i s hi rfl
  refine M.wp_mono _ _ _ _ (onJ_mono (fun us hu => ?_) fun _ h => h) (hb i _ hi (by simp; omega))
  exact ⟨_, by rw [hu]; rfl, by rw [set_next l l t.z i hi]⟩
 ·rintro s rfl
  simpa using he
theorem lp_all {M : Mc} {b : Tr} {Q : Out → Prop} (mk : Nat → List AV) (p : Nat → Prop) (N : Nat) (us : List AV) (hus : us = mk 0)
  (hb : ∀ i, i < N → M.wp b (envOf (mk i)) (onJ (fun us => us = mk (i + 1) ∧ p i) Q))
  (he : (∀ i, i < N → p i) → M.wp b (envOf (mk N)) (onJ (fun _ => False) Q)) : M.LP b us Q := by
 refine M.lp_for Unit (fun i _ => mk i) (fun i _ => ∀ j, j < i → p j) N 0 () us hus (Nat.zero_le _) (fun j hj => absurd hj (Nat.not_lt_zero _)) ?_ ?_
 ·rintro i - hi hp
  refine M.wp_mono _ _ _ _ (onJ_mono (fun us hu => ⟨(), hu.1, fun j hj => ?_⟩) fun o h => h) (hb i hi)
  rcases Nat.lt_succ_iff_lt_or_eq.1 hj with h | rfl
  ·exact hp j h
  ·exact hu.2
 ·rintro - hp
  exact he hp
def Lt63 {α : Type} (l : List α) : Prop := l.length ≤ 9223372036854775807
theorem sz_VarS (l : List Vr) (n : Int) (hn : 0 ≤ n ∧ n ≤ 1048576) (hl : Lt63 l) {Q : List AV → Prop} (h : ∀ k : Int, k ≤ n → (0 ≤ k → Few l) → Q [⟨I, k⟩]) : mc.C f_laws_szVarS [⟨L V3, l⟩, ⟨I, n⟩] Q := by
 unfold Lt63 at hl
 rw [Mc.Ends.c (outs := [⟨I, if n - l.length < 0 then -1 else n - l.length⟩]) (mc.ends F_laws_szVarS (by simp (contextual := true) (maxSteps := 1000000) (disch := omega) only [↓Sd, ↓So, ↓Sk, ↓den, ↓denA, Sa, Sb, Sc, Se, O1.d, O2.d, O3.d, cmI, arI, envOf, putN, ↓reduceIte, Nat.reduceLT, Nat.reduceSub, Nat.reduceAdd, Int.reduceAdd, Int.reduceEq, Int.reduceLT, Int.reduceLE, arr_pos, arr_neg, tr_laws_szVarS] <;> grind))]
 exact h _ (by split <;> omega) (by unfold Few; split <;> omega)
theorem sz_TermS (l : List Tm) (n : Int) (hn : 0 ≤ n ∧ n ≤ 1048576) (hl : Lt63 l) {Q : List AV → Prop} (h : ∀ k : Int, k ≤ n → (0 ≤ k → Few l) → Q [⟨I, k⟩]) : mc.C f_laws_szTermS [⟨L T4, l⟩, ⟨I, n⟩] Q := by
 unfold Lt63 at hl
 rw [Mc.Ends.c (outs := [⟨I, if n - l.length < 0 then -1 else n - l.length⟩]) (mc.ends F_laws_szTermS (by simp (contextual := true) (maxSteps := 1000000) (disch := omega) only [↓Sd, ↓So, ↓Sk, ↓den, ↓denA, Sa, Sb, Sc, Se, O1.d, O2.d, O3.d, cmI, arI, envOf, putN, ↓reduceIte, Nat.reduceLT, Nat.reduceSub, Nat.reduceAdd, Int.reduceAdd, Int.reduceEq, Int.reduceLT, Int.reduceLE, arr_pos, arr_neg, tr_laws_szTermS] <;> grind))]
 exact h _ (by split <;> omega) (by unfold Few; split <;> omega)
theorem sz_IntS (l : List Int) (n : Int) (hn : 0 ≤ n ∧ n ≤ 1048576) (hl : Lt63 l) {Q : List AV → Prop} (h : ∀ k : Int, k ≤ n → (0 ≤ k → Few l) → Q [⟨I, k⟩]) : mc.C f_laws_szIntS [⟨L I, l⟩, ⟨I, n⟩] Q := by
 unfold Lt63 at hl
 rw [Mc.Ends.c (outs := [⟨I, if n - l.length < 0 then -1 else n - l.length⟩]) (mc.ends F_laws_szIntS (by simp (contextual := true) (maxSteps := 1000000) (disch := omega) only [↓Sd, ↓So, ↓Sk, ↓den, ↓denA, Sa, Sb, Sc, Se, O1.d, O2.d, O3.d, cmI, arI, envOf, putN, ↓reduceIte, Nat.reduceLT, Nat.reduceSub, Nat.reduceAdd, Int.reduceAdd, Int.reduceEq, Int.reduceLT, Int.reduceLE, arr_pos, arr_neg, tr_laws_szIntS] <;> grind))]
 exact h _ (by split <;> omega) (by unfold Few; split <;> omega)
theorem lp_sz {M : Mc} (t : Ty) {b : Tr} (l : List t.D) (n : Int) (P : t.D → Prop) (Q : Out → Prop)
  (hb : ∀ (i : Nat) (k : Int) (X : Int → Prop), i < l.length → 0 ≤ k → k ≤ n → (∀ j : Int, j ≤ k → (0 ≤ j → P (l.getD i t.z)) → X j) → M.wp b (envOf [⟨L t, l⟩, ⟨I, k⟩, ⟨I, (i : Int)⟩]) (onJ (fun us => ∃ j : Int, us = [⟨L t, l⟩, ⟨I, j⟩, ⟨I, (i : Int) + 1⟩] ∧ 0 ≤ j ∧ X j) (fun o => o = .ret [⟨I, (-1 : Int)⟩])))
  (h1 : Q (.ret [⟨I, (-1 : Int)⟩])) (he : ∀ k : Int, 0 ≤ k → k ≤ n → (∀ x ∈ l, P x) → M.wp b (envOf [⟨L t, l⟩, ⟨I, k⟩, ⟨I, (l.length : Int)⟩]) (onJ (fun _ => False) Q)) (hn : 0 ≤ n) : M.LP b [⟨L t, l⟩, ⟨I, n⟩, ⟨I, (0 : Int)⟩] Q := by
 refine M.lp_for Int (fun i k => [⟨L t, l⟩, ⟨I, k⟩, ⟨I, (i : Int)⟩]) (fun i k => 0 ≤ k ∧ k ≤ n ∧ ∀ j, j < i → P (l.getD j t.z)) l.length 0 n _ rfl (Nat.zero_le _) ⟨hn, Int.le_refl _, fun j hj => absurd hj (Nat.not_lt_zero _)⟩ ?_ ?_
 ·rintro i k hi ⟨h0, hk, hp⟩
  refine M.wp_mono _ _ _ _ (onJ_mono (fun us hu => ?_) fun o h => by rw [h]; exact h1) (hb i k (fun j => j ≤ k ∧ (0 ≤ j → P (l.getD i t.z))) hi h0 hk fun j h1 h2 => ⟨h1, h2⟩)
  obtain ⟨j, rfl, hj, h2, h3⟩ := hu
  refine ⟨j, rfl, hj, Int.le_trans h2 hk, fun m hm => ?_⟩
  rcases Nat.lt_succ_iff_lt_or_eq.1 hm with h | rfl
  ·exact hp m h
  ·exact h3 hj
 ·rintro k ⟨h0, hk, hp⟩
  refine he k h0 hk fun x hx => ?_
  obtain ⟨i, hi, rfl⟩ := List.getElem_of_mem hx
  have := hp i hi
  rwa [getD_lt hi] at this
theorem sz_TermSS (l : List (List Tm)) (n : Int) (hn : 0 ≤ n ∧ n ≤ 1048576) (hl : Lt63 l) (hl2 : ∀ x ∈ l, Lt63 x) {Q : List AV → Prop} (h : ∀ k : Int, k ≤ n → (0 ≤ k → Few l ∧ ∀ x ∈ l, Few x) → Q [⟨I, k⟩]) : mc.C f_laws_szTermSS [⟨L (L T4), l⟩, ⟨I, n⟩] Q := by
 unfold Lt63 at hl
 refine mc.c_of F_laws_szTermSS ?_
 simp (contextual := true) (maxSteps := 1000000) (disch := omega) only [↓Sd, ↓So, ↓Sk, ↓den, ↓denA, Sa, Sb, Sc, Se, O1.d, O2.d, O3.d, cmI, arI, envOf, putN, ↓reduceIte, Nat.reduceLT, Nat.reduceSub, Nat.reduceAdd, Int.reduceAdd, Int.reduceEq, Int.reduceLT, Int.reduceLE, arr_pos, arr_neg, tr_laws_szTermSS]
 refine ⟨fun h0 => h _ (by omega) (by omega), fun h0 => ?_⟩
 refine lp_sz (L T4) l _ (fun x => Few x) _ ?_ ?_ ?_ (by omega)
 ·intro i k X hi h0 hk hX
  simp (contextual := true) (maxSteps := 1000000) (disch := omega) only [↓Sd, ↓So, ↓Sk, ↓den, ↓denA, Sa, Sb, Sc, Se, O1.d, O2.d, O3.d, cmI, arI, envOf, putN, ↓reduceIte, Nat.reduceLT, Nat.reduceSub, Nat.reduceAdd, Int.reduceAdd, Int.reduceEq, Int.reduceLT, Int.reduceLE, arr_pos, arr_neg, ]
  refine sz_TermS _ k ⟨h0, by omega⟩ (hl2 _ (getD_mem hi)) fun j h1 h2 => ?_
  simp (contextual := true) (maxSteps := 1000000) (disch := omega) only [↓Sd, ↓So, ↓Sk, ↓den, ↓denA, Sa, Sb, Sc, Se, O1.d, O2.d, O3.d, cmI, arI, envOf, putN, ↓reduceIte, Nat.reduceLT, Nat.reduceSub, Nat.reduceAdd, Int.reduceAdd, Int.reduceEq, Int.reduceLT, Int.reduceLE, arr_pos, arr_neg, ]
  exact fun h => ⟨by omega, hX j h1 h2⟩
 ·exact h _ (by omega) (by omega)
 ·intro k h0 hk hp
  simp (contextual := true) (maxSteps := 1000000) (disch := omega) only [↓Sd, ↓So, ↓Sk, ↓den, ↓denA, Sa, Sb, Sc, Se, O1.d, O2.d, O3.d, cmI, arI, envOf, putN, ↓reduceIte, Nat.reduceLT, Nat.reduceSub, Nat.reduceAdd, Int.reduceAdd, Int.reduceEq, Int.reduceLT, Int.reduceLE, arr_pos, arr_neg, ]
  exact h _ (by omega) fun _ => ⟨by unfold Few; omega, hp⟩
theorem sz_Rule (r : Ru) (n : Int) (hn : 0 ≤ n ∧ n ≤ 1048576) (h1 : Lt63 r.1) (h2 : Lt63 r.2.1) (h3 : Lt63 r.2.2) (h4 : ∀ x ∈ r.2.2, Lt63 x) {Q : List AV → Prop} (h : ∀ k : Int, k ≤ n → (0 ≤ k → Few r.1 ∧ Few r.2.1 ∧ Few r.2.2 ∧ ∀ x ∈ r.2.2, Few x) → Q [⟨I, k⟩]) : mc.C f_laws_szRule [⟨L T4, r.1⟩, ⟨L I, r.2.1⟩, ⟨L (L T4), r.2.2⟩, ⟨I, n⟩] Q := by
 refine mc.c_of F_laws_szRule ?_
 simp (contextual := true) (maxSteps := 1000000) (disch := omega) only [↓Sd, ↓So, ↓Sk, ↓den, ↓denA, Sa, Sb, Sc, Se, O1.d, O2.d, O3.d, cmI, arI, envOf, putN, ↓reduceIte, Nat.reduceLT, Nat.reduceSub, Nat.reduceAdd, Int.reduceAdd, Int.reduceEq, Int.reduceLT, Int.reduceLE, arr_pos, arr_neg, tr_laws_szRule]
 refine sz_TermS _ n hn h1 fun j a1 a2 => ?_
 simp (contextual := true) (maxSteps := 1000000) (disch := omega) only [↓Sd, ↓So, ↓Sk, ↓den, ↓denA, Sa, Sb, Sc, Se, O1.d, O2.d, O3.d, cmI, arI, envOf, putN, ↓reduceIte, Nat.reduceLT, Nat.reduceSub, Nat.reduceAdd, Int.reduceAdd, Int.reduceEq, Int.reduceLT, Int.reduceLE, arr_pos, arr_neg, ]
 refine ⟨fun _ => h _ (by omega) (by omega), fun h0 => ?_⟩
 refine sz_IntS _ j (by omega) h2 fun k b1 b2 => ?_
 simp (contextual := true) (maxSteps := 1000000) (disch := omega) only [↓Sd, ↓So, ↓Sk, ↓den, ↓denA, Sa, Sb, Sc, Se, O1.d, O2.d, O3.d, cmI, arI, envOf, putN, ↓reduceIte, Nat.reduceLT, Nat.reduceSub, Nat.reduceAdd, Int.reduceAdd, Int.reduceEq, Int.reduceLT, Int.reduceLE, arr_pos, arr_neg, ]
 refine ⟨fun _ => h _ (by omega) (by omega), fun h0 => ?_⟩
 refine sz_TermSS _ k (by omega) h3 h4 fun m c1 c2 => ?_
 simp (contextual := true) (maxSteps := 1000000) (disch := omega) only [↓Sd, ↓So, ↓Sk, ↓den, ↓denA, Sa, Sb, Sc, Se, O1.d, O2.d, O3.d, cmI, arI, envOf, putN, ↓reduceIte, Nat.reduceLT, Nat.reduceSub, Nat.reduceAdd, Int.reduceAdd, Int.reduceEq, Int.reduceLT, Int.reduceLE, arr_pos, arr_neg, ]
 refine ⟨fun _ => h _ (by omega) (by omega), fun h0 => ?_⟩
 exact h _ (by omega) fun _ => ⟨a2 (by omega), b2 (by omega), c2 (by omega)⟩
def LtRu (r : Ru) : Prop := Lt63 r.1 ∧ Lt63 r.2.1 ∧ Lt63 r.2.2 ∧ ∀ x ∈ r.2.2, Lt63 x
def FewRu (r : Ru) : Prop := Few r.1 ∧ Few r.2.1 ∧ Few r.2.2 ∧ ∀ x ∈ r.2.2, Few x
theorem sz_RuleS (l : List Ru) (n : Int) (hn : 0 ≤ n ∧ n ≤ 1048576) (hl : Lt63 l) (hl2 : ∀ x ∈ l, LtRu x) {Q : List AV → Prop} (h : ∀ k : Int, k ≤ n → (0 ≤ k → Few l ∧ ∀ x ∈ l, FewRu x) → Q [⟨I, k⟩]) : mc.C f_laws_szRuleS [⟨L TR, l⟩, ⟨I, n⟩] Q := by
 unfold Lt63 at hl
 refine mc.c_of F_laws_szRuleS ?_
 simp (contextual := true) (maxSteps := 1000000) (disch := omega) only [↓Sd, ↓So, ↓Sk, ↓den, ↓denA, Sa, Sb, Sc, Se, O1.d, O2.d, O3.d, cmI, arI, envOf, putN, ↓reduceIte, Nat.reduceLT, Nat.reduceSub, Nat.reduceAdd, Int.reduceAdd, Int.reduceEq, Int.reduceLT, Int.reduceLE, arr_pos, arr_neg, tr_laws_szRuleS]
 refine ⟨fun h0 => h _ (by omega) (by omega), fun h0 => ?_⟩
 refine lp_sz TR l _ (fun x => FewRu x) _ ?_ ?_ ?_ (by omega)
 ·intro i k X hi h0 hk hX
  simp (contextual := true) (maxSteps := 1000000) (disch := omega) only [↓Sd, ↓So, ↓Sk, ↓den, ↓denA, Sa, Sb, Sc, Se, O1.d, O2.d, O3.d, cmI, arI, envOf, putN, ↓reduceIte, Nat.reduceLT, Nat.reduceSub, Nat.reduceAdd, Int.reduceAdd, Int.reduceEq, Int.reduceLT, Int.reduceLE, arr_pos, arr_neg, ]
  obtain ⟨c1, c2, c3, c4⟩ := hl2 _ (getD_mem (d := ([], [], [])) hi)
  refine sz_Rule (l.getD i ([], [], [])) k ⟨h0, by omega⟩ c1 c2 c3 c4 fun j h1 h2 => ?_
  simp (contextual := true) (maxSteps := 1000000) (disch := omega) only [↓Sd, ↓So, ↓Sk, ↓den, ↓denA, Sa, Sb, Sc, Se, O1.d, O2.d, O3.d, cmI, arI, envOf, putN, ↓reduceIte, Nat.reduceLT, Nat.reduceSub, Nat.reduceAdd, Int.reduceAdd, Int.reduceEq, Int.reduceLT, Int.reduceLE, arr_pos, arr_neg, ]
  exact fun h => ⟨by omega, hX j h1 h2⟩
 ·exact h _ (by omega) (by omega)
 ·intro k h0 hk hp
  simp (contextual := true) (maxSteps := 1000000) (disch := omega) only [↓Sd, ↓So, ↓Sk, ↓den, ↓denA, Sa, Sb, Sc, Se, O1.d, O2.d, O3.d, cmI, arI, envOf, putN, ↓reduceIte, Nat.reduceLT, Nat.reduceSub, Nat.reduceAdd, Int.reduceAdd, Int.reduceEq, Int.reduceLT, Int.reduceLE, arr_pos, arr_neg, ]
  exact h _ (by omega) fun _ => ⟨by unfold Few; omega, hp⟩
def LtSy (s : Sy) : Prop := Lt63 s.1 ∧ Lt63 s.2 ∧ ∀ x ∈ s.2, LtRu x
def FewSy (s : Sy) : Prop := Few s.1 ∧ Few s.2 ∧ ∀ x ∈ s.2, FewRu x
theorem sz_System (s : Sy) (n : Int) (hn : 0 ≤ n ∧ n ≤ 1048576) (hl : LtSy s) {Q : List AV → Prop} (h : ∀ k : Int, k ≤ n → (0 ≤ k → FewSy s) → Q [⟨I, k⟩]) : mc.C f_laws_szSystem [⟨L V3, s.1⟩, ⟨L TR, s.2⟩, ⟨I, n⟩] Q := by
 obtain ⟨h1, h2, h3⟩ := hl
 refine mc.c_of F_laws_szSystem ?_
 simp (contextual := true) (maxSteps := 1000000) (disch := omega) only [↓Sd, ↓So, ↓Sk, ↓den, ↓denA, Sa, Sb, Sc, Se, O1.d, O2.d, O3.d, cmI, arI, envOf, putN, ↓reduceIte, Nat.reduceLT, Nat.reduceSub, Nat.reduceAdd, Int.reduceAdd, Int.reduceEq, Int.reduceLT, Int.reduceLE, arr_pos, arr_neg, tr_laws_szSystem]
 refine sz_VarS _ n hn h1 fun j a1 a2 => ?_
 simp (contextual := true) (maxSteps := 1000000) (disch := omega) only [↓Sd, ↓So, ↓Sk, ↓den, ↓denA, Sa, Sb, Sc, Se, O1.d, O2.d, O3.d, cmI, arI, envOf, putN, ↓reduceIte, Nat.reduceLT, Nat.reduceSub, Nat.reduceAdd, Int.reduceAdd, Int.reduceEq, Int.reduceLT, Int.reduceLE, arr_pos, arr_neg, ]
 refine ⟨fun _ => h _ (by omega) (by omega), fun h0 => ?_⟩
 refine sz_RuleS _ j (by omega) h2 h3 fun k b1 b2 => ?_
 simp (contextual := true) (maxSteps := 1000000) (disch := omega) only [↓Sd, ↓So, ↓Sk, ↓den, ↓denA, Sa, Sb, Sc, Se, O1.d, O2.d, O3.d, cmI, arI, envOf, putN, ↓reduceIte, Nat.reduceLT, Nat.reduceSub, Nat.reduceAdd, Int.reduceAdd, Int.reduceEq, Int.reduceLT, Int.reduceLE, arr_pos, arr_neg, ]
 refine ⟨fun _ => h _ (by omega) (by omega), fun h0 => ?_⟩
 exact h _ (by omega) fun _ => ⟨a2 (by omega), b2 (by omega)⟩
theorem few_lim {α : Type} {l : List α} (h : Few l) : (l.length : Int) ≤ 1048576 := by unfold Few at h; omega
theorem to_Var (v : Vr) (Q : List AV → Prop) : mc.C f_laws_toVar [⟨I, v.1⟩, ⟨I, v.2.1⟩, ⟨I, v.2.2⟩] Q = Q [⟨I, v.1⟩, ⟨I, v.2.1⟩, ⟨I, v.2.2⟩] :=
 Mc.Ends.c (mc.ends F_laws_toVar (by simp (contextual := true) (maxSteps := 1000000) (disch := omega) only [↓Sd, ↓So, ↓Sk, ↓den, ↓denA, Sa, Sb, Sc, Se, O1.d, O2.d, O3.d, cmI, arI, envOf, putN, ↓reduceIte, Nat.reduceLT, Nat.reduceSub, Nat.reduceAdd, Int.reduceAdd, Int.reduceEq, Int.reduceLT, Int.reduceLE, arr_pos, arr_neg, tr_laws_toVar]))
theorem to_Term (v : Tm) (Q : List AV → Prop) : mc.C f_laws_toTerm [⟨I, v.1⟩, ⟨I, v.2.1⟩, ⟨I, v.2.2.1⟩, ⟨I, v.2.2.2⟩] Q = Q [⟨I, v.1⟩, ⟨I, v.2.1⟩, ⟨I, v.2.2.1⟩, ⟨I, v.2.2.2⟩] :=
 Mc.Ends.c (mc.ends F_laws_toTerm (by simp (contextual := true) (maxSteps := 1000000) (disch := omega) only [↓Sd, ↓So, ↓Sk, ↓den, ↓denA, Sa, Sb, Sc, Se, O1.d, O2.d, O3.d, cmI, arI, envOf, putN, ↓reduceIte, Nat.reduceLT, Nat.reduceSub, Nat.reduceAdd, Int.reduceAdd, Int.reduceEq, Int.reduceLT, Int.reduceLE, arr_pos, arr_neg, tr_laws_toTerm]))
theorem to_VarS (l : List Vr) (h : Few l) (Q : List AV → Prop) : mc.C f_laws_toVarS [⟨L V3, l⟩] Q = Q [⟨L V3, l⟩] := by
 have := few_lim h
 refine Mc.Ends.c (mc.ends F_laws_toVarS ?_)
 simp (contextual := true) (maxSteps := 1000000) (disch := omega) only [↓Sd, ↓So, ↓Sk, ↓den, ↓denA, Sa, Sb, Sc, Se, O1.d, O2.d, O3.d, cmI, arI, envOf, putN, ↓reduceIte, Nat.reduceLT, Nat.reduceSub, Nat.reduceAdd, Int.reduceAdd, Int.reduceEq, Int.reduceLT, Int.reduceLE, arr_pos, arr_neg, tr_laws_toVarS]
 refine lp_copy V3 l ?_ ?_
 ·intro i s hi hs
  simp (contextual := true) (maxSteps := 1000000) (disch := omega) only [↓Sd, ↓So, ↓Sk, ↓den, ↓denA, Sa, Sb, Sc, Se, O1.d, O2.d, O3.d, cmI, arI, envOf, putN, ↓reduceIte, Nat.reduceLT, Nat.reduceSub, Nat.reduceAdd, Int.reduceAdd, Int.reduceEq, Int.reduceLT, Int.reduceLE, arr_pos, arr_neg, to_Var]
 ·simp (contextual := true) (maxSteps := 1000000) (disch := omega) only [↓Sd, ↓So, ↓Sk, ↓den, ↓denA, Sa, Sb, Sc, Se, O1.d, O2.d, O3.d, cmI, arI, envOf, putN, ↓reduceIte, Nat.reduceLT, Nat.reduceSub, Nat.reduceAdd, Int.reduceAdd, Int.reduceEq, Int.reduceLT, Int.reduceLE, arr_pos, arr_neg, ]
theorem to_TermS (l : List Tm) (h : Few l) (Q : List AV → Prop) : mc.C f_laws_toTermS [⟨L T4, l⟩] Q = Q [⟨L T4, l⟩] := by
 have := few_lim h
 refine Mc.Ends.c (mc.ends F_laws_toTermS ?_)
 simp (contextual := true) (maxSteps := 1000000) (disch := omega) only [↓Sd, ↓So, ↓Sk, ↓den, ↓denA, Sa, Sb, Sc, Se, O1.d, O2.d, O3.d, cmI, arI, envOf, putN, ↓reduceIte, Nat.reduceLT, Nat.reduceSub, Nat.reduceAdd, Int.reduceAdd, Int.reduceEq, Int.reduceLT, Int.reduceLE, arr_pos, arr_neg, tr_laws_toTermS]
 refine lp_copy T4 l ?_ ?_
 ·intro i s hi hs
  simp (contextual := true) (maxSteps := 1000000) (disch := omega) only [↓Sd, ↓So, ↓Sk, ↓den, ↓denA, Sa, Sb, Sc, Se, O1.d, O2.d, O3.d, cmI, arI, envOf, putN, ↓reduceIte, Nat.reduceLT, Nat.reduceSub, Nat.reduceAdd, Int.reduceAdd, Int.reduceEq, Int.reduceLT, Int.reduceLE, arr_pos, arr_neg, to_Term]
 ·simp (contextual := true) (maxSteps := 1000000) (disch := omega) only [↓Sd, ↓So, ↓Sk, ↓den, ↓denA, Sa, Sb, Sc, Se, O1.d, O2.d, O3.d, cmI, arI, envOf, putN, ↓reduceIte, Nat.reduceLT, Nat.reduceSub, Nat.reduceAdd, Int.reduceAdd, Int.reduceEq, Int.reduceLT, Int.reduceLE, arr_pos, arr_neg, ]
theorem to_IntS (l : List Int) (h : Few l) (Q : List AV → Prop) : mc.C f_laws_toIntS [⟨L I, l⟩] Q = Q [⟨L I, l⟩] := by
 have := few_lim h
 refine Mc.Ends.c (mc.ends F_laws_toIntS ?_)
 simp (contextual := true) (maxSteps := 1000000) (disch := omega) only [↓Sd, ↓So, ↓Sk, ↓den, ↓denA, Sa, Sb, Sc, Se, O1.d, O2.d, O3.d, cmI, arI, envOf, putN, ↓reduceIte, Nat.reduceLT, Nat.reduceSub, Nat.reduceAdd, Int.reduceAdd, Int.reduceEq, Int.reduceLT, Int.reduceLE, arr_pos, arr_neg, tr_laws_toIntS]
 refine lp_copy I l ?_ ?_
 ·intro i s hi hs
  simp (contextual := true) (maxSteps := 1000000) (disch := omega) only [↓Sd, ↓So, ↓Sk, ↓den, ↓denA, Sa, Sb, Sc, Se, O1.d, O2.d, O3.d, cmI, arI, envOf, putN, ↓reduceIte, Nat.reduceLT, Nat.reduceSub, Nat.reduceAdd, Int.reduceAdd, Int.reduceEq, Int.reduceLT, Int.reduceLE, arr_pos, arr_neg, ]
 ·simp (contextual := true) (maxSteps := 1000000) (disch := omega) only [↓Sd, ↓So, ↓Sk, ↓den, ↓denA, Sa, Sb, Sc, Se, O1.d, O2.d, O3.d, cmI, arI, envOf, putN, ↓reduceIte, Nat.reduceLT, Nat.reduceSub, Nat.reduceAdd, Int.reduceAdd, Int.reduceEq, Int.reduceLT, Int.reduceLE, arr_pos, arr_neg, ]
theorem to_TermSS (l : List (List Tm)) (h : Few l) (h2 : ∀ x ∈ l, Few x) (Q : List AV → Prop) : mc.C f_laws_toTermSS [⟨L (L T4), l⟩] Q = Q [⟨L (L T4), l⟩] := by
 have := few_lim h
 refine Mc.Ends.c (mc.ends F_laws_toTermSS ?_)
 simp (contextual := true) (maxSteps := 1000000) (disch := omega) only [↓Sd, ↓So, ↓Sk, ↓den, ↓denA, Sa, Sb, Sc, Se, O1.d, O2.d, O3.d, cmI, arI, envOf, putN, ↓reduceIte, Nat.reduceLT, Nat.reduceSub, Nat.reduceAdd, Int.reduceAdd, Int.reduceEq, Int.reduceLT, Int.reduceLE, arr_pos, arr_neg, tr_laws_toTermSS]
 refine lp_copy (L T4) l ?_ ?_
 ·intro i s hi hs
  simp (contextual := true) (maxSteps := 1000000) (disch := omega) only [↓Sd, ↓So, ↓Sk, ↓den, ↓denA, Sa, Sb, Sc, Se, O1.d, O2.d, O3.d, cmI, arI, envOf, putN, ↓reduceIte, Nat.reduceLT, Nat.reduceSub, Nat.reduceAdd, Int.reduceAdd, Int.reduceEq, Int.reduceLT, Int.reduceLE, arr_pos, arr_neg, to_TermS _ (h2 _ (getD_mem hi))]
 ·simp (contextual := true) (maxSteps := 1000000) (disch := omega) only [↓Sd, ↓So, ↓Sk, ↓den, ↓denA, Sa, Sb, Sc, Se, O1.d, O2.d, O3.d, cmI, arI, envOf, putN, ↓reduceIte, Nat.reduceLT, Nat.reduceSub, Nat.reduceAdd, Int.reduceAdd, Int.reduceEq, Int.reduceLT, Int.reduceLE, arr_pos, arr_neg, ]
theorem to_Rule (r : Ru) (h : FewRu r) (Q : List AV → Prop) : mc.C f_laws_toRule [⟨L T4, r.1⟩, ⟨L I, r.2.1⟩, ⟨L (L T4), r.2.2⟩] Q = Q [⟨L T4, r.1⟩, ⟨L I, r.2.1⟩, ⟨L (L T4), r.2.2⟩] := by
 obtain ⟨h1, h2, h3, h4⟩ := h
 refine Mc.Ends.c (mc.ends F_laws_toRule ?_)
 simp (contextual := true) (maxSteps := 1000000) (disch := omega) only [↓Sd, ↓So, ↓Sk, ↓den, ↓denA, Sa, Sb, Sc, Se, O1.d, O2.d, O3.d, cmI, arI, envOf, putN, ↓reduceIte, Nat.reduceLT, Nat.reduceSub, Nat.reduceAdd, Int.reduceAdd, Int.reduceEq, Int.reduceLT, Int.reduceLE, arr_pos, arr_neg, tr_laws_toRule, to_TermS _ h1, to_IntS _ h2, to_TermSS _ h3 h4]
theorem to_RuleS (l : List Ru) (h : Few l) (h2 : ∀ x ∈ l, FewRu x) (Q : List AV → Prop) : mc.C f_laws_toRuleS [⟨L TR, l⟩] Q = Q [⟨L TR, l⟩] := by
 have := few_lim h
 refine Mc.Ends.c (mc.ends F_laws_toRuleS ?_)
 simp (contextual := true) (maxSteps := 1000000) (disch := omega) only [↓Sd, ↓So, ↓Sk, ↓den, ↓denA, Sa, Sb, Sc, Se, O1.d, O2.d, O3.d, cmI, arI, envOf, putN, ↓reduceIte, Nat.reduceLT, Nat.reduceSub, Nat.reduceAdd, Int.reduceAdd, Int.reduceEq, Int.reduceLT, Int.reduceLE, arr_pos, arr_neg, tr_laws_toRuleS]
 refine lp_copy TR l ?_ ?_
 ·intro i s hi hs
  simp (contextual := true) (maxSteps := 1000000) (disch := omega) only [↓Sd, ↓So, ↓Sk, ↓den, ↓denA, Sa, Sb, Sc, Se, O1.d, O2.d, O3.d, cmI, arI, envOf, putN, ↓reduceIte, Nat.reduceLT, Nat.reduceSub, Nat.reduceAdd, Int.reduceAdd, Int.reduceEq, Int.reduceLT, Int.reduceLE, arr_pos, arr_neg, to_Rule _ (h2 _ (getD_mem (d := ([], [], [])) hi))]
 ·simp (contextual := true) (maxSteps := 1000000) (disch := omega) only [↓Sd, ↓So, ↓Sk, ↓den, ↓denA, Sa, Sb, Sc, Se, O1.d, O2.d, O3.d, cmI, arI, envOf, putN, ↓reduceIte, Nat.reduceLT, Nat.reduceSub, Nat.reduceAdd, Int.reduceAdd, Int.reduceEq, Int.reduceLT, Int.reduceLE, arr_pos, arr_neg, ]
theorem to_System (s : Sy) (h : FewSy s) (Q : List AV → Prop) : mc.C f_laws_toSystem [⟨L V3, s.1⟩, ⟨L TR, s.2⟩] Q = Q [⟨L V3, s.1⟩, ⟨L TR, s.2⟩] := by
 obtain ⟨h1, h2, h3⟩ := h
 refine Mc.Ends.c (mc.ends F_laws_toSystem ?_)
 simp (contextual := true) (maxSteps := 1000000) (disch := omega) only [↓Sd, ↓So, ↓Sk, ↓den, ↓denA, Sa, Sb, Sc, Se, O1.d, O2.d, O3.d, cmI, arI, envOf, putN, ↓reduceIte, Nat.reduceLT, Nat.reduceSub, Nat.reduceAdd, Int.reduceAdd, Int.reduceEq, Int.reduceLT, Int.reduceLE, arr_pos, arr_neg, tr_laws_toSystem, to_VarS _ h1, to_RuleS _ h2 h3]
theorem eq_Var (v : Vr) (Q : List AV → Prop) : mc.C f_laws_eqVar [⟨I, v.1⟩, ⟨I, v.2.1⟩, ⟨I, v.2.2⟩, ⟨I, v.1⟩, ⟨I, v.2.1⟩, ⟨I, v.2.2⟩] Q = Q [⟨B, true⟩] :=
 Mc.Ends.c (mc.ends F_laws_eqVar (by simp (contextual := true) (maxSteps := 1000000) (disch := omega) only [↓Sd, ↓So, ↓Sk, ↓den, ↓denA, Sa, Sb, Sc, Se, O1.d, O2.d, O3.d, cmI, arI, envOf, putN, ↓reduceIte, Nat.reduceLT, Nat.reduceSub, Nat.reduceAdd, Int.reduceAdd, Int.reduceEq, Int.reduceLT, Int.reduceLE, arr_pos, arr_neg, tr_laws_eqVar]))
theorem eq_Term (v : Tm) (Q : List AV → Prop) : mc.C f_laws_eqTerm [⟨I, v.1⟩, ⟨I, v.2.1⟩, ⟨I, v.2.2.1⟩, ⟨I, v.2.2.2⟩, ⟨I, v.1⟩, ⟨I, v.2.1⟩, ⟨I, v.2.2.1⟩, ⟨I, v.2.2.2⟩] Q = Q [⟨B, true⟩] :=
 Mc.Ends.c (mc.ends F_laws_eqTerm (by simp (contextual := true) (maxSteps := 1000000) (disch := omega) only [↓Sd, ↓So, ↓Sk, ↓den, ↓denA, Sa, Sb, Sc, Se, O1.d, O2.d, O3.d, cmI, arI, envOf, putN, ↓reduceIte, Nat.reduceLT, Nat.reduceSub, Nat.reduceAdd, Int.reduceAdd, Int.reduceEq, Int.reduceLT, Int.reduceLE, arr_pos, arr_neg, tr_laws_eqTerm]))
theorem lp_self {M : Mc} (t : Ty) {b : Tr} {Q : Out → Prop} (l : List t.D)
  (hb : ∀ (i : Nat), i < l.length → M.wp b (envOf [⟨L t, l⟩, ⟨L t, l⟩, ⟨I, (i : Int)⟩]) (onJ (fun us => us = [⟨L t, l⟩, ⟨L t, l⟩, ⟨I, (i : Int) + 1⟩]) Q))
  (he : M.wp b (envOf [⟨L t, l⟩, ⟨L t, l⟩, ⟨I, (l.length : Int)⟩]) (onJ (fun _ => False) Q)) : M.LP b [⟨L t, l⟩, ⟨L t, l⟩, ⟨I, (0 : Int)⟩] Q :=
 lp_all (fun i => [⟨L t, l⟩, ⟨L t, l⟩, ⟨I, (i : Int)⟩]) (fun _ => True) l.length _ rfl (fun i hi => M.wp_mono _ _ _ _ (onJ_mono (fun us hu => ⟨hu, trivial⟩) fun _ h => h) (hb i hi)) fun _ => he
theorem eq_VarS (l : List Vr) (h : Few l) (Q : List AV → Prop) : mc.C f_laws_eqVarS [⟨L V3, l⟩, ⟨L V3, l⟩] Q = Q [⟨B, true⟩] := by
 have := few_lim h
 refine Mc.Ends.c (mc.ends F_laws_eqVarS ?_)
 simp (contextual := true) (maxSteps := 1000000) (disch := omega) only [↓Sd, ↓So, ↓Sk, ↓den, ↓denA, Sa, Sb, Sc, Se, O1.d, O2.d, O3.d, cmI, arI, envOf, putN, ↓reduceIte, Nat.reduceLT, Nat.reduceSub, Nat.reduceAdd, Int.reduceAdd, Int.reduceEq, Int.reduceLT, Int.reduceLE, arr_pos, arr_neg, tr_laws_eqVarS]
 refine lp_self V3 l (fun i hi => ?_) ?_
 ·simp (contextual := true) (maxSteps := 1000000) (disch := omega) only [↓Sd, ↓So, ↓Sk, ↓den, ↓denA, Sa, Sb, Sc, Se, O1.d, O2.d, O3.d, cmI, arI, envOf, putN, ↓reduceIte, Nat.reduceLT, Nat.reduceSub, Nat.reduceAdd, Int.reduceAdd, Int.reduceEq, Int.reduceLT, Int.reduceLE, arr_pos, arr_neg, eq_Var]
 ·simp (contextual := true) (maxSteps := 1000000) (disch := omega) only [↓Sd, ↓So, ↓Sk, ↓den, ↓denA, Sa, Sb, Sc, Se, O1.d, O2.d, O3.d, cmI, arI, envOf, putN, ↓reduceIte, Nat.reduceLT, Nat.reduceSub, Nat.reduceAdd, Int.reduceAdd, Int.reduceEq, Int.reduceLT, Int.reduceLE, arr_pos, arr_neg, ]
theorem eq_TermS (l : List Tm) (h : Few l) (Q : List AV → Prop) : mc.C f_laws_eqTermS [⟨L T4, l⟩, ⟨L T4, l⟩] Q = Q [⟨B, true⟩] := by
 have := few_lim h
 refine Mc.Ends.c (mc.ends F_laws_eqTermS ?_)
 simp (contextual := true) (maxSteps := 1000000) (disch := omega) only [↓Sd, ↓So, ↓Sk, ↓den, ↓denA, Sa, Sb, Sc, Se, O1.d, O2.d, O3.d, cmI, arI, envOf, putN, ↓reduceIte, Nat.reduceLT, Nat.reduceSub, Nat.reduceAdd, Int.reduceAdd, Int.reduceEq, Int.reduceLT, Int.reduceLE, arr_pos, arr_neg, tr_laws_eqTermS]
 refine lp_self T4 l (fun i hi => ?_) ?_
 ·simp (contextual := true) (maxSteps := 1000000) (disch := omega) only [↓Sd, ↓So, ↓Sk, ↓den, ↓denA, Sa, Sb, Sc, Se, O1.d, O2.d, O3.d, cmI, arI, envOf, putN, ↓reduceIte, Nat.reduceLT, Nat.reduceSub, Nat.reduceAdd, Int.reduceAdd, Int.reduceEq, Int.reduceLT, Int.reduceLE, arr_pos, arr_neg, eq_Term]
 ·simp (contextual := true) (maxSteps := 1000000) (disch := omega) only [↓Sd, ↓So, ↓Sk, ↓den, ↓denA, Sa, Sb, Sc, Se, O1.d, O2.d, O3.d, cmI, arI, envOf, putN, ↓reduceIte, Nat.reduceLT, Nat.reduceSub, Nat.reduceAdd, Int.reduceAdd, Int.reduceEq, Int.reduceLT, Int.reduceLE, arr_pos, arr_neg, ]
theorem eq_IntS (l : List Int) (h : Few l) (Q : List AV → Prop) : mc.C f_laws_eqIntS [⟨L I, l⟩, ⟨L I, l⟩] Q = Q [⟨B, true⟩] := by
 have := few_lim h
 refine Mc.Ends.c (mc.ends F_laws_eqIntS ?_)
 simp (contextual := true) (maxSteps := 1000000) (disch := omega) only [↓Sd, ↓So, ↓Sk, ↓den, ↓denA, Sa, Sb, Sc, Se, O1.d, O2.d, O3.d, cmI, arI, envOf, putN, ↓reduceIte, Nat.reduceLT, Nat.reduceSub, Nat.reduceAdd, Int.reduceAdd, Int.reduceEq, Int.reduceLT, Int.reduceLE, arr_pos, arr_neg, tr_laws_eqIntS]
 refine lp_self I l (fun i hi => ?_) ?_
 ·simp (contextual := true) (maxSteps := 1000000) (disch := omega) only [↓Sd, ↓So, ↓Sk, ↓den, ↓denA, Sa, Sb, Sc, Se, O1.d, O2.d, O3.d, cmI, arI, envOf, putN, ↓reduceIte, Nat.reduceLT, Nat.reduceSub, Nat.reduceAdd, Int.reduceAdd, Int.reduceEq, Int.reduceLT, Int.reduceLE, arr_pos, arr_neg, ]
 ·simp (contextual := true) (maxSteps := 1000000) (disch := omega) only [↓Sd, ↓So, ↓Sk, ↓den, ↓denA, Sa, Sb, Sc, Se, O1.d, O2.d, O3.d, cmI, arI, envOf, putN, ↓reduceIte, Nat.reduceLT, Nat.reduceSub, Nat.reduceAdd, Int.reduceAdd, Int.reduceEq, Int.reduceLT, Int.reduceLE, arr_pos, arr_neg, ]
theorem eq_TermSS (l : List (List Tm)) (h : Few l) (h2 : ∀ x ∈ l, Few x) (Q : List AV → Prop) : mc.C f_laws_eqTermSS [⟨L (L T4), l⟩, ⟨L (L T4), l⟩] Q = Q [⟨B, true⟩] := by
 have := few_lim h
 refine Mc.Ends.c (mc.ends F_laws_eqTermSS ?_)
 simp (contextual := true) (maxSteps := 1000000) (disch := omega) only [↓Sd, ↓So, ↓Sk, ↓den, ↓denA, Sa, Sb, Sc, Se, O1.d, O2.d, O3.d, cmI, arI, envOf, putN, ↓reduceIte, Nat.reduceLT, Nat.reduceSub, Nat.reduceAdd, Int.reduceAdd, Int.reduceEq, Int.reduceLT, Int.reduceLE, arr_pos, arr_neg, tr_laws_eqTermSS]
 refine lp_self (L T4) l (fun i hi => ?_) ?_
 ·simp (contextual := true) (maxSteps := 1000000) (disch := omega) only [↓Sd, ↓So, ↓Sk, ↓den, ↓denA, Sa, Sb, Sc, Se, O1.d, O2.d, O3.d, cmI, arI, envOf, putN, ↓reduceIte, Nat.reduceLT, Nat.reduceSub, Nat.reduceAdd, Int.reduceAdd, Int.reduceEq, Int.reduceLT, Int.reduceLE, arr_pos, arr_neg, eq_TermS _ (h2 _ (getD_mem hi))]
 ·simp (contextual := true) (maxSteps := 1000000) (disch := omega) only [↓Sd, ↓So, ↓Sk, ↓den, ↓denA, Sa, Sb, Sc, Se, O1.d, O2.d, O3.d, cmI, arI, envOf, putN, ↓reduceIte, Nat.reduceLT, Nat.reduceSub, Nat.reduceAdd, Int.reduceAdd, Int.reduceEq, Int.reduceLT, Int.reduceLE, arr_pos, arr_neg, ]
theorem eq_Rule (r : Ru) (h : FewRu r) (Q : List AV → Prop) : mc.C f_laws_eqRule [⟨L T4, r.1⟩, ⟨L I, r.2.1⟩, ⟨L (L T4), r.2.2⟩, ⟨L T4, r.1⟩, ⟨L I, r.2.1⟩, ⟨L (L T4), r.2.2⟩] Q = Q [⟨B, true⟩] := by
 obtain ⟨h1, h2, h3, h4⟩ := h
 refine Mc.Ends.c (mc.ends F_laws_eqRule ?_)
 simp (contextual := true) (maxSteps := 1000000) (disch := omega) only [↓Sd, ↓So, ↓Sk, ↓den, ↓denA, Sa, Sb, Sc, Se, O1.d, O2.d, O3.d, cmI, arI, envOf, putN, ↓reduceIte, Nat.reduceLT, Nat.reduceSub, Nat.reduceAdd, Int.reduceAdd, Int.reduceEq, Int.reduceLT, Int.reduceLE, arr_pos, arr_neg, tr_laws_eqRule, eq_TermS _ h1, eq_IntS _ h2, eq_TermSS _ h3 h4]
theorem eq_RuleS (l : List Ru) (h : Few l) (h2 : ∀ x ∈ l, FewRu x) (Q : List AV → Prop) : mc.C f_laws_eqRuleS [⟨L TR, l⟩, ⟨L TR, l⟩] Q = Q [⟨B, true⟩] := by
 have := few_lim h
 refine Mc.Ends.c (mc.ends F_laws_eqRuleS ?_)
 simp (contextual := true) (maxSteps := 1000000) (disch := omega) only [↓Sd, ↓So, ↓Sk, ↓den, ↓denA, Sa, Sb, Sc, Se, O1.d, O2.d, O3.d, cmI, arI, envOf, putN, ↓reduceIte, Nat.reduceLT, Nat.reduceSub, Nat.reduceAdd, Int.reduceAdd, Int.reduceEq, Int.reduceLT, Int.reduceLE, arr_pos, arr_neg, tr_laws_eqRuleS]
 refine lp_self TR l (fun i hi => ?_) ?_
 ·simp (contextual := true) (maxSteps := 1000000) (disch := omega) only [↓Sd, ↓So, ↓Sk, ↓den, ↓denA, Sa, Sb, Sc, Se, O1.d, O2.d, O3.d, cmI, arI, envOf, putN, ↓reduceIte, Nat.reduceLT, Nat.reduceSub, Nat.reduceAdd, Int.reduceAdd, Int.reduceEq, Int.reduceLT, Int.reduceLE, arr_pos, arr_neg, eq_Rule _ (h2 _ (getD_mem (d := ([], [], [])) hi))]
 ·simp (contextual := true) (maxSteps := 1000000) (disch := omega) only [↓Sd, ↓So, ↓Sk, ↓den, ↓denA, Sa, Sb, Sc, Se, O1.d, O2.d, O3.d, cmI, arI, envOf, putN, ↓reduceIte, Nat.reduceLT, Nat.reduceSub, Nat.reduceAdd, Int.reduceAdd, Int.reduceEq, Int.reduceLT, Int.reduceLE, arr_pos, arr_neg, ]
theorem eq_System (s : Sy) (h : FewSy s) (Q : List AV → Prop) : mc.C f_laws_eqSystem [⟨L V3, s.1⟩, ⟨L TR, s.2⟩, ⟨L V3, s.1⟩, ⟨L TR, s.2⟩] Q = Q [⟨B, true⟩] := by
 obtain ⟨h1, h2, h3⟩ := h
 refine Mc.Ends.c (mc.ends F_laws_eqSystem ?_)
 simp (contextual := true) (maxSteps := 1000000) (disch := omega) only [↓Sd, ↓So, ↓Sk, ↓den, ↓denA, Sa, Sb, Sc, Se, O1.d, O2.d, O3.d, cmI, arI, envOf, putN, ↓reduceIte, Nat.reduceLT, Nat.reduceSub, Nat.reduceAdd, Int.reduceAdd, Int.reduceEq, Int.reduceLT, Int.reduceLE, arr_pos, arr_neg, tr_laws_eqSystem, eq_VarS _ h1, eq_RuleS _ h2 h3]
theorem C_spec_l1In (n a b : Int) (Q : List AV → Prop) : mc.C f_spec_l1In [⟨I, n⟩, ⟨I, a⟩, ⟨I, b⟩] Q = Q [⟨B, decide (a ≤ n ∧ n ≤ b)⟩] := by
 refine Mc.Ends.c (mc.ends F_spec_l1In ?_)
 simp (contextual := true) (maxSteps := 1000000) (disch := omega) only [↓Sd, ↓So, ↓Sk, ↓den, ↓denA, Sa, Sb, Sc, Se, O1.d, O2.d, O3.d, cmI, arI, envOf, putN, ↓reduceIte, Nat.reduceLT, Nat.reduceSub, Nat.reduceAdd, Int.reduceAdd, Int.reduceEq, Int.reduceLT, Int.reduceLE, arr_pos, arr_neg, tr_spec_l1In] <;> grind
theorem C_impl_in (n a b : Int) (Q : List AV → Prop) : mc.C f_impl_in [⟨I, n⟩, ⟨I, a⟩, ⟨I, b⟩] Q = Q [⟨B, decide (a ≤ n ∧ n ≤ b)⟩] := by
 refine Mc.Ends.c (mc.ends F_impl_in ?_)
 simp (contextual := true) (maxSteps := 1000000) (disch := omega) only [↓Sd, ↓So, ↓Sk, ↓den, ↓denA, Sa, Sb, Sc, Se, O1.d, O2.d, O3.d, cmI, arI, envOf, putN, ↓reduceIte, Nat.reduceLT, Nat.reduceSub, Nat.reduceAdd, Int.reduceAdd, Int.reduceEq, Int.reduceLT, Int.reduceLE, arr_pos, arr_neg, tr_impl_in] <;> grind
theorem C_spec_l1One (n : Int) (Q : List AV → Prop) : mc.C f_spec_l1One [⟨I, n⟩] Q = Q [⟨B, decide (n = 7)⟩] := by
 refine Mc.Ends.c (mc.ends F_spec_l1One ?_)
 simp (contextual := true) (maxSteps := 1000000) (disch := omega) only [↓Sd, ↓So, ↓Sk, ↓den, ↓denA, Sa, Sb, Sc, Se, O1.d, O2.d, O3.d, cmI, arI, envOf, putN, ↓reduceIte, Nat.reduceLT, Nat.reduceSub, Nat.reduceAdd, Int.reduceAdd, Int.reduceEq, Int.reduceLT, Int.reduceLE, arr_pos, arr_neg, tr_spec_l1One]
 grind
theorem C_impl_parts (n : Int) (Q : List AV → Prop) : mc.C f_impl_parts [⟨I, n⟩] Q = Q [⟨I, if 2 ≤ n ∧ n ≤ 9 then (if n = 7 then 1 else 2) else 0⟩, ⟨I, if 2 ≤ n ∧ n ≤ 9 then (if 7 ≤ n then 2 else 1) else 0⟩, ⟨I, if 5 ≤ n ∧ n ≤ 9 then 2 else 1⟩] := by
 refine Mc.Ends.c (mc.ends F_impl_parts ?_)
 simp (contextual := true) (maxSteps := 1000000) (disch := omega) only [↓Sd, ↓So, ↓Sk, ↓den, ↓denA, Sa, Sb, Sc, Se, O1.d, O2.d, O3.d, cmI, arI, envOf, putN, ↓reduceIte, Nat.reduceLT, Nat.reduceSub, Nat.reduceAdd, Int.reduceAdd, Int.reduceEq, Int.reduceLT, Int.reduceLE, arr_pos, arr_neg, tr_impl_parts]
 intro h1 h2 h3 h4 h5 h6 h7 h8
 rw [if_neg (by omega), if_neg (by omega), if_neg (by omega)]; exact ⟨rfl, rfl, rfl⟩
def kd (t : Tm) (ks : List Int) (vars : Int) : Int :=
 if t.1 = 0 then (if -9999 ≤ t.2.1 ∧ t.2.1 ≤ 9999 ∧ t.2.2.1 = 0 ∧ t.2.2.2 = 0 then 1 else 0)
 else if t.1 = 1 then (if 0 ≤ t.2.1 ∧ t.2.1 ≤ vars - 1 ∧ t.2.2.1 = 0 ∧ t.2.2.2 = 0 then 1 else 0)
 else if 2 ≤ t.1 ∧ t.1 ≤ 9 ∧ t.2.1 = 0 ∧ (0 ≤ t.2.2.1 ∧ t.2.2.1 < ks.length) ∧ (0 ≤ t.2.2.2 ∧ t.2.2.2 < ks.length) ∧
   ks.getD t.2.2.1.toNat 0 = (if 7 ≤ t.1 then 2 else 1) ∧ ks.getD t.2.2.2.toNat 0 = (if 7 ≤ t.1 then 2 else 1) ∧ (t.1 = 7 → t.2.2.2 = t.2.2.1) then (if 5 ≤ t.1 then 2 else 1)
 else 0
theorem kd_low {t : Tm} {ks : List Int} {vars : Int} (h : kd t ks vars ≠ 0) : kd t ks vars = if 5 ≤ t.1 ∧ t.1 ≤ 9 then 2 else 1 := by
 unfold kd at h ⊢
 grind
def kds (vars : Int) : List Tm → List Int → Option (List Int)
 | [], ks => some ks
 | t :: l, ks => if kd t ks vars = 0 then none else kds vars l (ks ++ [kd t ks vars])
def kdsOf (l : List Tm) (vars : Int) : List Int := if (0 ≤ vars ∧ vars ≤ 5) ∧ 1 ≤ l.length ∧ l.length ≤ 40 then (kds vars l []).getD [] else []
def kf (l : List Tm) (vars : Int) : Int := (kdsOf l vars).getLastD 0
theorem kds_len {vars : Int} : ∀ {l : List Tm} {ks o : List Int}, kds vars l ks = some o → o.length = ks.length + l.length
 | [], ks, o, h => by cases h; simp
 | t :: l, ks, o, h => by
  simp only [kds] at h
  split at h
  ·cases h
  ·have := kds_len h
   simp only [List.length_append, List.length_cons, List.length_nil] at this ⊢
   omega
theorem drop_cons {α : Type} {l : List α} {i : Nat} {d : α} (h : i < l.length) : l.drop i = l.getD i d :: l.drop (i + 1) := by
 rw [getD_lt h]; exact List.drop_eq_getElem_cons h
def Nt (p : Prop) : Prop := ¬ p
theorem kd_op {o n a b vars w : Int} {ks : List Int} (hw : (if 7 ≤ o then (2 : Int) else 1) = w) (h3 : 2 ≤ o ∧ o ≤ 9) (h4 : n = 0) (h5 : 0 ≤ a ∧ a < ks.length) (h6 : 0 ≤ b ∧ b < ks.length) :
  kd (o, n, a, b) ks vars = if ks.getD a.toNat 0 = w ∧ ks.getD b.toNat 0 = w ∧ (o = 7 → b = a) then (if 5 ≤ o then 2 else 1) else 0 := by
 simp only [kd, hw]
 rw [if_neg (by omega), if_neg (by omega)]
 simp only [h3, h4, h5, h6, true_and]
theorem C_spec_l1Kind (t : Tm) (ks : List Int) (vars : Int) (hv : 0 ≤ vars ∧ vars ≤ 5) (hk : ks.length ≤ 40) (Q : List AV → Prop) :
  mc.C f_spec_l1Kind [⟨I, t.1⟩, ⟨I, t.2.1⟩, ⟨I, t.2.2.1⟩, ⟨I, t.2.2.2⟩, ⟨L I, ks⟩, ⟨I, vars⟩] Q = Q [⟨I, kd t ks vars⟩] := by
 refine Mc.Ends.c (mc.ends F_spec_l1Kind ?_)
 obtain ⟨o, n, a, b⟩ := t
 generalize hK : kd (o, n, a, b) ks vars = K
 simp (contextual := true) (maxSteps := 1000000) (disch := omega) only [↓Sd, ↓So, ↓Sk, ↓den, ↓denA, Sa, Sb, Sc, Se, O1.d, O2.d, O3.d, cmI, arI, envOf, putN, ↓reduceIte, Nat.reduceLT, Nat.reduceSub, Nat.reduceAdd, Int.reduceAdd, Int.reduceEq, Int.reduceLT, Int.reduceLE, arr_pos, arr_neg, tr_spec_l1Kind, C_spec_l1In, C_spec_l1One]
 refine mc.wp_join (fun us => us = [⟨L I, ks⟩, ⟨I, vars⟩, ⟨I, o⟩, ⟨I, n⟩, ⟨I, a⟩, ⟨I, b⟩] ∧ Nt (o = 0 ∧ -9999 ≤ n ∧ n ≤ 9999 ∧ a = 0 ∧ b = 0)) ?_ ?_
 ·simp (contextual := true) (maxSteps := 1000000) (disch := omega) only [↓Sd, ↓So, ↓Sk, ↓den, ↓denA, Sa, Sb, Sc, Se, O1.d, O2.d, O3.d, cmI, arI, envOf, putN, ↓reduceIte, Nat.reduceLT, Nat.reduceSub, Nat.reduceAdd, Int.reduceAdd, Int.reduceEq, Int.reduceLT, Int.reduceLE, arr_pos, arr_neg, C_spec_l1In, C_spec_l1One]
  simp only [kd, Nt] at hK ⊢
  grind
 rintro _ ⟨rfl, h1⟩
 refine mc.wp_join (fun us => us = [⟨L I, ks⟩, ⟨I, o⟩, ⟨I, n⟩, ⟨I, a⟩, ⟨I, b⟩] ∧ Nt (o = 1 ∧ 0 ≤ n ∧ n ≤ vars - 1 ∧ a = 0 ∧ b = 0)) ?_ ?_
 ·simp (contextual := true) (maxSteps := 1000000) (disch := omega) only [↓Sd, ↓So, ↓Sk, ↓den, ↓denA, Sa, Sb, Sc, Se, O1.d, O2.d, O3.d, cmI, arI, envOf, putN, ↓reduceIte, Nat.reduceLT, Nat.reduceSub, Nat.reduceAdd, Int.reduceAdd, Int.reduceEq, Int.reduceLT, Int.reduceLE, arr_pos, arr_neg, C_spec_l1In, C_spec_l1One]
  simp only [kd, Nt] at hK ⊢
  grind
 rintro _ ⟨rfl, h2⟩
 simp (contextual := true) (maxSteps := 1000000) (disch := omega) only [↓Sd, ↓So, ↓Sk, ↓den, ↓denA, Sa, Sb, Sc, Se, O1.d, O2.d, O3.d, cmI, arI, envOf, putN, ↓reduceIte, Nat.reduceLT, Nat.reduceSub, Nat.reduceAdd, Int.reduceAdd, Int.reduceEq, Int.reduceLT, Int.reduceLE, arr_pos, arr_neg, C_spec_l1In, C_spec_l1One]
 refine ⟨fun h3 => ?_, fun h3 => ⟨fun h4 => ?_, fun h4 => ⟨fun h5 => ?_, fun h5 => ⟨fun h6 => ?_, fun h6 => ?_⟩⟩⟩⟩
 ·unfold Nt at h1 h2; simp only [kd] at hK; grind
 ·unfold Nt at h1 h2; simp only [kd] at hK; grind
 ·unfold Nt at h1 h2; simp only [kd] at hK; grind
 ·unfold Nt at h1 h2; simp only [kd] at hK; grind
 clear h1 h2
 generalize hw : (if 7 ≤ o then (2 : Int) else 1) = w
 rw [kd_op hw (by omega) (by omega) (by omega) (by omega)] at hK
 refine mc.wp_join (fun us => us = [⟨L I, ks⟩, ⟨I, w⟩, ⟨I, o⟩, ⟨I, n⟩, ⟨I, a⟩, ⟨I, b⟩]) ?_ ?_
 ·simp (contextual := true) (maxSteps := 1000000) (disch := omega) only [↓Sd, ↓So, ↓Sk, ↓den, ↓denA, Sa, Sb, Sc, Se, O1.d, O2.d, O3.d, cmI, arI, envOf, putN, ↓reduceIte, Nat.reduceLT, Nat.reduceSub, Nat.reduceAdd, Int.reduceAdd, Int.reduceEq, Int.reduceLT, Int.reduceLE, arr_pos, arr_neg, ]
  exact ⟨fun h => ⟨by rw [← hw, if_pos h], h4.symm⟩, fun h => ⟨by rw [← hw, if_neg h], h4.symm⟩⟩
 rintro _ rfl
 refine mc.wp_join (fun us => us = [⟨I, o⟩, ⟨I, n⟩, ⟨I, a⟩, ⟨I, b⟩] ∧ ks.getD a.toNat 0 = w ∧ ks.getD b.toNat 0 = w ∧ (o = 7 → b = a)) ?_ ?_
 ·simp (contextual := true) (maxSteps := 1000000) (disch := omega) only [↓Sd, ↓So, ↓Sk, ↓den, ↓denA, Sa, Sb, Sc, Se, O1.d, O2.d, O3.d, cmI, arI, envOf, putN, ↓reduceIte, Nat.reduceLT, Nat.reduceSub, Nat.reduceAdd, Int.reduceAdd, Int.reduceEq, Int.reduceLT, Int.reduceLE, arr_pos, arr_neg, C_spec_l1One]
  grind
 ·rintro _ ⟨rfl, h7, h8, h9⟩
  simp (contextual := true) (maxSteps := 1000000) (disch := omega) only [↓Sd, ↓So, ↓Sk, ↓den, ↓denA, Sa, Sb, Sc, Se, O1.d, O2.d, O3.d, cmI, arI, envOf, putN, ↓reduceIte, Nat.reduceLT, Nat.reduceSub, Nat.reduceAdd, Int.reduceAdd, Int.reduceEq, Int.reduceLT, Int.reduceLE, arr_pos, arr_neg, ]
  rw [if_pos ⟨h7, h8, h9⟩] at hK
  grind
theorem C_spec_KindsOf (l : List Tm) (vars : Int) (hl : Few l) (Q : List AV → Prop) : mc.C f_spec_KindsOf [⟨L T4, l⟩, ⟨I, vars⟩] Q = Q [⟨L I, kdsOf l vars⟩] := by
 have := few_lim hl
 refine Mc.Ends.c (mc.ends F_spec_KindsOf ?_)
 simp (contextual := true) (maxSteps := 1000000) (disch := omega) only [↓Sd, ↓So, ↓Sk, ↓den, ↓denA, Sa, Sb, Sc, Se, O1.d, O2.d, O3.d, cmI, arI, envOf, putN, ↓reduceIte, Nat.reduceLT, Nat.reduceSub, Nat.reduceAdd, Int.reduceAdd, Int.reduceEq, Int.reduceLT, Int.reduceLE, arr_pos, arr_neg, tr_spec_KindsOf, C_spec_l1In]
 unfold kdsOf
 refine ⟨fun h => by rw [if_neg (by omega)], fun h1 => ⟨fun h => by rw [if_neg (by omega)], fun h2 => ?_⟩⟩
 rw [if_pos (by omega)]
 refine mc.lp_for (List Int) (fun i s => [⟨L T4, l⟩, ⟨I, vars⟩, ⟨I, (i : Int)⟩, ⟨L I, s⟩]) (fun i s => s.length = i ∧ kds vars (l.drop i) s = kds vars l []) l.length 0 [] _ rfl (Nat.zero_le _) ⟨rfl, rfl⟩ ?_ ?_
 ·rintro i s hi ⟨hs, hk⟩
  simp (contextual := true) (maxSteps := 1000000) (disch := omega) only [↓Sd, ↓So, ↓Sk, ↓den, ↓denA, Sa, Sb, Sc, Se, O1.d, O2.d, O3.d, cmI, arI, envOf, putN, ↓reduceIte, Nat.reduceLT, Nat.reduceSub, Nat.reduceAdd, Int.reduceAdd, Int.reduceEq, Int.reduceLT, Int.reduceLE, arr_pos, arr_neg, C_spec_l1Kind (l.getD i (0, 0, 0, 0)) s vars (by omega) (by omega)]
  rw [drop_cons (d := (0, 0, 0, 0)) hi] at hk
  simp only [kds] at hk
  refine ⟨fun h => by rw [← hk, if_pos h]; rfl, fun h => ⟨by simp [hs], ?_⟩⟩
  rw [← hk, if_neg h]
 ·rintro s ⟨hs, hk⟩
  simp (contextual := true) (maxSteps := 1000000) (disch := omega) only [↓Sd, ↓So, ↓Sk, ↓den, ↓denA, Sa, Sb, Sc, Se, O1.d, O2.d, O3.d, cmI, arI, envOf, putN, ↓reduceIte, Nat.reduceLT, Nat.reduceSub, Nat.reduceAdd, Int.reduceAdd, Int.reduceEq, Int.reduceLT, Int.reduceLE, arr_pos, arr_neg, ]
  rw [← hk, List.drop_length]
  rfl
theorem kdsOf_len (l : List Tm) (vars : Int) : (kdsOf l vars).length ≤ 40 := by
 unfold kdsOf
 split
 ·cases h : kds vars l [] with
  | none => simp
  | some o => have := kds_len h; simp at this ⊢; omega
 ·simp
theorem kf_last {l : List Tm} {vars : Int} (h : 0 < (kdsOf l vars).length) : (kdsOf l vars).getD ((kdsOf l vars).length - 1) 0 = kf l vars := by
 rw [kf, List.getLastD_eq_getLast?, List.getLast?_eq_getElem?]
 rfl
theorem kf_nil {l : List Tm} {vars : Int} (h : ¬ 0 < (kdsOf l vars).length) : kf l vars = 0 := by
 have : kdsOf l vars = [] := List.eq_nil_of_length_eq_zero (by omega)
 rw [kf, this]; rfl
theorem C_spec_l2Is (l : List Tm) (vars k : Int) (hl : Few l) (hk : k ≠ 0) (Q : List AV → Prop) : mc.C f_spec_l2Is [⟨L T4, l⟩, ⟨I, vars⟩, ⟨I, k⟩] Q = Q [⟨B, decide (kf l vars = k)⟩] := by
 refine Mc.Ends.c (mc.ends F_spec_l2Is ?_)
 have hlen := kdsOf_len l vars
 simp (contextual := true) (maxSteps := 1000000) (disch := omega) only [↓Sd, ↓So, ↓Sk, ↓den, ↓denA, Sa, Sb, Sc, Se, O1.d, O2.d, O3.d, cmI, arI, envOf, putN, ↓reduceIte, Nat.reduceLT, Nat.reduceSub, Nat.reduceAdd, Int.reduceAdd, Int.reduceEq, Int.reduceLT, Int.reduceLE, arr_pos, arr_neg, tr_spec_l2Is, C_spec_KindsOf l vars hl]
 refine ⟨fun h => ?_, fun h => ?_⟩
 ·rw [kf_last (by omega)]; rfl
 ·rw [kf_nil (by omega)]; exact (decide_eq_false (Ne.symm hk)).symm
theorem C_impl_kindsOf (l : List Tm) (vars : Int) (hl : Few l) (Q : List AV → Prop) : mc.C f_impl_kindsOf [⟨L T4, l⟩, ⟨I, vars⟩] Q = Q [⟨N I, kdsOf l vars⟩] := by
 have := few_lim hl
 refine Mc.Ends.c (mc.ends F_impl_kindsOf ?_)
 simp (contextual := true) (maxSteps := 1000000) (disch := omega) only [↓Sd, ↓So, ↓Sk, ↓den, ↓denA, Sa, Sb, Sc, Se, O1.d, O2.d, O3.d, cmI, arI, envOf, putN, ↓reduceIte, Nat.reduceLT, Nat.reduceSub, Nat.reduceAdd, Int.reduceAdd, Int.reduceEq, Int.reduceLT, Int.reduceLE, arr_pos, arr_neg, tr_impl_kindsOf, C_impl_in]
 unfold kdsOf
 refine ⟨fun h => by rw [if_neg (by omega)], fun h1 => ⟨fun h => by rw [if_neg (by omega)], fun h2 => ?_⟩⟩
 rw [if_pos (by omega)]
 have h1 : 0 ≤ vars ∧ vars ≤ 5 := by omega
 have h2 : 1 ≤ l.length ∧ l.length ≤ 40 := by omega
 refine mc.lp_for (List Int) (fun i s => [⟨I, vars⟩, ⟨L T4, l⟩, ⟨I, (l.length : Int)⟩, ⟨I, (i : Int)⟩, ⟨L I, s⟩]) (fun i s => s.length = i ∧ kds vars (l.drop i) s = kds vars l []) l.length 0 [] _ rfl (Nat.zero_le _) ⟨rfl, rfl⟩ ?_ ?_
 ·rintro i s hi ⟨hs, hk⟩
  simp (contextual := true) (maxSteps := 1000000) (disch := omega) only [↓Sd, ↓So, ↓Sk, ↓den, ↓denA, Sa, Sb, Sc, Se, O1.d, O2.d, O3.d, cmI, arI, envOf, putN, ↓reduceIte, Nat.reduceLT, Nat.reduceSub, Nat.reduceAdd, Int.reduceAdd, Int.reduceEq, Int.reduceLT, Int.reduceLE, arr_pos, arr_neg, C_impl_in, C_impl_parts]
  refine mc.wp_join (fun us => us = [⟨I, vars⟩, ⟨I, if 5 ≤ (l.getD i (0, 0, 0, 0)).1 ∧ (l.getD i (0, 0, 0, 0)).1 ≤ 9 then 2 else 1⟩, ⟨B, decide (kd (l.getD i (0, 0, 0, 0)) s vars ≠ 0)⟩, ⟨L T4, l⟩, ⟨I, (l.length : Int)⟩, ⟨I, (i : Int)⟩, ⟨L I, s⟩]) ?_ ?_
  ·obtain ⟨o, n, a, b, ht⟩ : ∃ o n a b, l.getD i (0, 0, 0, 0) = (o, n, a, b) := ⟨_, _, _, _, rfl⟩
   subst hs
   rw [ht]
   generalize hK : decide (kd (o, n, a, b) s vars ≠ 0) = K
   simp (contextual := true) (maxSteps := 1000000) (disch := omega) only [↓Sd, ↓So, ↓Sk, ↓den, ↓denA, Sa, Sb, Sc, Se, O1.d, O2.d, O3.d, cmI, arI, envOf, putN, ↓reduceIte, Nat.reduceLT, Nat.reduceSub, Nat.reduceAdd, Int.reduceAdd, Int.reduceEq, Int.reduceLT, Int.reduceLE, arr_pos, arr_neg, C_impl_in, C_impl_parts, ht]
   refine ⟨fun h0 => ?_, fun h0 => ⟨fun h1 => ?_, fun h1 => ?_⟩⟩
   ·subst h0; simp only [kd, if_pos] at hK; grind
   ·subst h1; simp only [kd, if_pos] at hK; grind
   ·rw [← hK]; simp only [kd, if_neg h0, if_neg h1]; clear hK hk; grind
  ·rintro _ rfl
   rw [drop_cons (d := (0, 0, 0, 0)) hi] at hk
   simp only [kds] at hk
   simp (contextual := true) (maxSteps := 1000000) (disch := omega) only [↓Sd, ↓So, ↓Sk, ↓den, ↓denA, Sa, Sb, Sc, Se, O1.d, O2.d, O3.d, cmI, arI, envOf, putN, ↓reduceIte, Nat.reduceLT, Nat.reduceSub, Nat.reduceAdd, Int.reduceAdd, Int.reduceEq, Int.reduceLT, Int.reduceLE, arr_pos, arr_neg, ]
   refine ⟨fun h => ?_, fun h => ⟨by simp [hs], ?_⟩⟩
   ·rw [← hk, if_pos (by simpa using h)]; rfl
   ·have h : kd (l.getD i (0, 0, 0, 0)) s vars ≠ 0 := by simpa using h
    rw [← hk, if_neg h, kd_low h]
 ·rintro s ⟨hs, hk⟩
  simp (contextual := true) (maxSteps := 1000000) (disch := omega) only [↓Sd, ↓So, ↓Sk, ↓den, ↓denA, Sa, Sb, Sc, Se, O1.d, O2.d, O3.d, cmI, arI, envOf, putN, ↓reduceIte, Nat.reduceLT, Nat.reduceSub, Nat.reduceAdd, Int.reduceAdd, Int.reduceEq, Int.reduceLT, Int.reduceLE, arr_pos, arr_neg, ]
  rw [← hk, List.drop_length]
  refine ⟨?_, rfl⟩
  cases s with
  | nil => simp at hs; omega
  | cons a s => rfl
theorem C_impl_kindOf (l : List Tm) (vars : Int) (hl : Few l) (Q : List AV → Prop) : mc.C f_impl_kindOf [⟨L T4, l⟩, ⟨I, vars⟩] Q = Q [⟨I, kf l vars⟩] := by
 refine Mc.Ends.c (mc.ends F_impl_kindOf ?_)
 have hlen := kdsOf_len l vars
 simp (contextual := true) (maxSteps := 1000000) (disch := omega) only [↓Sd, ↓So, ↓Sk, ↓den, ↓denA, Sa, Sb, Sc, Se, O1.d, O2.d, O3.d, cmI, arI, envOf, putN, ↓reduceIte, Nat.reduceLT, Nat.reduceSub, Nat.reduceAdd, Int.reduceAdd, Int.reduceEq, Int.reduceLT, Int.reduceLE, arr_pos, arr_neg, tr_impl_kindOf, C_impl_kindsOf l vars hl, List.isEmpty_iff]
 refine ⟨fun h => ?_, fun h => ?_⟩
 ·rw [kf_nil (by rw [h]; simp)]
 ·have h0 : 0 < (kdsOf l vars).length := List.length_pos_iff.2 h
  simp (contextual := true) (maxSteps := 1000000) (disch := omega) only [↓Sd, ↓So, ↓Sk, ↓den, ↓denA, Sa, Sb, Sc, Se, O1.d, O2.d, O3.d, cmI, arI, envOf, putN, ↓reduceIte, Nat.reduceLT, Nat.reduceSub, Nat.reduceAdd, Int.reduceAdd, Int.reduceEq, Int.reduceLT, Int.reduceLE, arr_pos, arr_neg, ]
  exact kf_last h0
def vOk (v : Vr) : Prop := -9999 ≤ v.1 ∧ v.1 ≤ v.2.1 ∧ v.2.1 ≤ 9999 ∧ v.2.1 - v.1 < 20 ∧ v.1 ≤ v.2.2 ∧ v.2.2 ≤ v.2.1
instance (v : Vr) : Decidable (vOk v) := by unfold vOk; infer_instance
theorem C_spec_l2Var (v : Vr) (Q : List AV → Prop) : mc.C f_spec_l2Var [⟨I, v.1⟩, ⟨I, v.2.1⟩, ⟨I, v.2.2⟩] Q = Q [⟨B, decide (vOk v)⟩] := by
 refine Mc.Ends.c (mc.ends F_spec_l2Var ?_)
 generalize hK : decide (vOk v) = K
 simp (contextual := true) (maxSteps := 1000000) (disch := omega) only [↓Sd, ↓So, ↓Sk, ↓den, ↓denA, Sa, Sb, Sc, Se, O1.d, O2.d, O3.d, cmI, arI, envOf, putN, ↓reduceIte, Nat.reduceLT, Nat.reduceSub, Nat.reduceAdd, Int.reduceAdd, Int.reduceEq, Int.reduceLT, Int.reduceLE, arr_pos, arr_neg, tr_spec_l2Var, C_spec_l1In]
 simp only [vOk] at hK
 grind
theorem C_impl_varOk (v : Vr) (Q : List AV → Prop) : mc.C f_impl_varOk [⟨I, v.1⟩, ⟨I, v.2.1⟩, ⟨I, v.2.2⟩] Q = Q [⟨B, decide (vOk v)⟩] := by
 refine Mc.Ends.c (mc.ends F_impl_varOk ?_)
 generalize hK : decide (vOk v) = K
 simp (contextual := true) (maxSteps := 1000000) (disch := omega) only [↓Sd, ↓So, ↓Sk, ↓den, ↓denA, Sa, Sb, Sc, Se, O1.d, O2.d, O3.d, cmI, arI, envOf, putN, ↓reduceIte, Nat.reduceLT, Nat.reduceSub, Nat.reduceAdd, Int.reduceAdd, Int.reduceEq, Int.reduceLT, Int.reduceLE, arr_pos, arr_neg, tr_impl_varOk, C_impl_in]
 simp only [vOk] at hK
 grind
def rStep (r : Ru) (vars : Int) (i : Nat) : Prop := (0 ≤ r.2.1.getD i 0 ∧ r.2.1.getD i 0 ≤ vars - 1) ∧ (0 < i → r.2.1.getD (i - 1) 0 < r.2.1.getD i 0) ∧ kf (r.2.2.getD i []) vars = 1
def rOk (r : Ru) (vars : Int) : Prop := kf r.1 vars = 2 ∧ r.2.1.length = r.2.2.length ∧ ∀ i, i < r.2.1.length → rStep r vars i
instance (r : Ru) (v : Int) (i : Nat) : Decidable (rStep r v i) := by unfold rStep; infer_instance
instance (r : Ru) (v : Int) : Decidable (rOk r v) := by unfold rOk; infer_instance
theorem rOk_asc {r : Ru} {vars : Int} (h : ∀ i, i < r.2.1.length → rStep r vars i) : ∀ i, i < r.2.1.length → (i : Int) ≤ r.2.1.getD i 0 := by
 intro i
 induction i with
 | zero => intro hi; exact (h 0 hi).1.1
 | succ i ih =>
  intro hi
  have h1 := ih (by omega)
  have h2 := (h (i + 1) hi).2.1 (by omega)
  simp only [Nat.add_sub_cancel] at h2
  omega
theorem rOk_few {r : Ru} {vars : Int} (h : ∀ i, i < r.2.1.length → rStep r vars i) : (r.2.1.length : Int) ≤ max vars 0 := by
 rcases Nat.eq_zero_or_pos r.2.1.length with h0 | h0
 ·omega
 ·have h1 := rOk_asc h (r.2.1.length - 1) (by omega)
  have h2 := (h (r.2.1.length - 1) (by omega)).1.2
  omega
theorem C_spec_l2Rule (r : Ru) (vars : Int) (hv : 0 ≤ vars ∧ vars ≤ 5) (hr : FewRu r) (Q : List AV → Prop) : mc.C f_spec_l2Rule [⟨L T4, r.1⟩, ⟨L I, r.2.1⟩, ⟨L (L T4), r.2.2⟩, ⟨I, vars⟩] Q = Q [⟨B, decide (rOk r vars)⟩] := by
 obtain ⟨h1, h2, h3, h4⟩ := hr
 have b2 := few_lim h2
 have b3 := few_lim h3
 refine Mc.Ends.c (mc.ends F_spec_l2Rule ?_)
 generalize hK : decide (rOk r vars) = K
 simp (contextual := true) (maxSteps := 1000000) (disch := omega) only [↓Sd, ↓So, ↓Sk, ↓den, ↓denA, Sa, Sb, Sc, Se, O1.d, O2.d, O3.d, cmI, arI, envOf, putN, ↓reduceIte, Nat.reduceLT, Nat.reduceSub, Nat.reduceAdd, Int.reduceAdd, Int.reduceEq, Int.reduceLT, Int.reduceLE, arr_pos, arr_neg, tr_spec_l2Rule, C_spec_l2Is _ _ 2 h1 (by omega)]
 refine ⟨fun g => ?_, fun g1 => ⟨fun g => ?_, fun g2 => ⟨fun g => ?_, fun g3 => ?_⟩⟩⟩
 ·rw [← hK, decide_eq_false]; exact fun h => g h.1
 ·rw [← hK, decide_eq_false]; exact fun h => g (by rw [h.2.1])
 ·rw [← hK, decide_eq_false]; exact fun h => by have := rOk_few h.2.2; omega
 refine lp_all (fun i => [⟨I, vars⟩, ⟨I, (i : Int)⟩, ⟨L T4, r.1⟩, ⟨L I, r.2.1⟩, ⟨L (L T4), r.2.2⟩]) (rStep r vars) r.2.1.length _ rfl ?_ ?_
 ·intro i hi
  have hno : ¬ rStep r vars i → false = K := fun h => by rw [← hK, decide_eq_false]; exact fun h1 => h (h1.2.2 i hi)
  have h5 := h4 (r.2.2.getD i []) (getD_mem (by omega))
  simp (contextual := true) (maxSteps := 1000000) (disch := omega) only [↓Sd, ↓So, ↓Sk, ↓den, ↓denA, Sa, Sb, Sc, Se, O1.d, O2.d, O3.d, cmI, arI, envOf, putN, ↓reduceIte, Nat.reduceLT, Nat.reduceSub, Nat.reduceAdd, Int.reduceAdd, Int.reduceEq, Int.reduceLT, Int.reduceLE, arr_pos, arr_neg, ↓wpJoin, C_spec_l1In, C_spec_l2Is _ _ 1 h5 (by omega)]
  simp only [rStep] at hno ⊢
  grind
 ·intro h
  simp (contextual := true) (maxSteps := 1000000) (disch := omega) only [↓Sd, ↓So, ↓Sk, ↓den, ↓denA, Sa, Sb, Sc, Se, O1.d, O2.d, O3.d, cmI, arI, envOf, putN, ↓reduceIte, Nat.reduceLT, Nat.reduceSub, Nat.reduceAdd, Int.reduceAdd, Int.reduceEq, Int.reduceLT, Int.reduceLE, arr_pos, arr_neg, ]
  rw [← hK, decide_eq_true]; exact ⟨g1, by omega, h⟩
theorem C_impl_ruleOk (r : Ru) (vars : Int) (hv : 0 ≤ vars ∧ vars ≤ 5) (hr : FewRu r) (Q : List AV → Prop) : mc.C f_impl_ruleOk [⟨L T4, r.1⟩, ⟨L I, r.2.1⟩, ⟨L (L T4), r.2.2⟩, ⟨I, vars⟩] Q = Q [⟨B, decide (rOk r vars)⟩] := by
 obtain ⟨h1, h2, h3, h4⟩ := hr
 have b2 := few_lim h2
 have b3 := few_lim h3
 refine Mc.Ends.c (mc.ends F_impl_ruleOk ?_)
 generalize hK : decide (rOk r vars) = K
 simp (contextual := true) (maxSteps := 1000000) (disch := omega) only [↓Sd, ↓So, ↓Sk, ↓den, ↓denA, Sa, Sb, Sc, Se, O1.d, O2.d, O3.d, cmI, arI, envOf, putN, ↓reduceIte, Nat.reduceLT, Nat.reduceSub, Nat.reduceAdd, Int.reduceAdd, Int.reduceEq, Int.reduceLT, Int.reduceLE, arr_pos, arr_neg, tr_impl_ruleOk, C_impl_kindOf _ _ h1]
 refine ⟨fun g => ?_, fun g1 => ⟨fun g => ?_, fun g2 => ?_⟩⟩
 ·rw [← hK, decide_eq_false]; exact fun h => g h.1
 ·rw [← hK, decide_eq_false]; exact fun h => g (by rw [h.2.1])
 refine lp_all (fun i => [⟨I, vars⟩, ⟨L I, r.2.1⟩, ⟨I, (r.2.2.length : Int)⟩, ⟨I, (i : Int)⟩, ⟨L T4, r.1⟩, ⟨L I, r.2.1⟩, ⟨L (L T4), r.2.2⟩]) (rStep r vars) r.2.1.length _ rfl ?_ ?_
 ·intro i hi
  have hno : ¬ rStep r vars i → false = K := fun h => by rw [← hK, decide_eq_false]; exact fun h1 => h (h1.2.2 i hi)
  have h5 := h4 (r.2.2.getD i []) (getD_mem (by omega))
  simp (contextual := true) (maxSteps := 1000000) (disch := omega) only [↓Sd, ↓So, ↓Sk, ↓den, ↓denA, Sa, Sb, Sc, Se, O1.d, O2.d, O3.d, cmI, arI, envOf, putN, ↓reduceIte, Nat.reduceLT, Nat.reduceSub, Nat.reduceAdd, Int.reduceAdd, Int.reduceEq, Int.reduceLT, Int.reduceLE, arr_pos, arr_neg, ↓wpJoin, C_impl_in, C_impl_kindOf _ _ h5]
  simp only [rStep] at hno ⊢
  grind
 ·intro h
  simp (contextual := true) (maxSteps := 1000000) (disch := omega) only [↓Sd, ↓So, ↓Sk, ↓den, ↓denA, Sa, Sb, Sc, Se, O1.d, O2.d, O3.d, cmI, arI, envOf, putN, ↓reduceIte, Nat.reduceLT, Nat.reduceSub, Nat.reduceAdd, Int.reduceAdd, Int.reduceEq, Int.reduceLT, Int.reduceLE, arr_pos, arr_neg, ]
  rw [← hK, decide_eq_true]; exact ⟨g1, by omega, h⟩
def wd (v : Vr) : Int := v.2.1 - v.1 + 1
def sz (l : List Vr) : Int := l.foldl (fun n v => n * wd v) 1
def valid (s : Sy) : Prop := (1 ≤ s.1.length ∧ s.1.length ≤ 5) ∧ s.2.length ≤ 8 ∧ (∀ v ∈ s.1, vOk v) ∧ (∀ r ∈ s.2, rOk r s.1.length) ∧ sz s.1 ≤ 400
instance (s : Sy) : Decidable (valid s) := by unfold valid; infer_instance
theorem wd_ok {v : Vr} (h : vOk v) : 1 ≤ wd v ∧ wd v ≤ 20 := by unfold vOk at h; unfold wd; omega
theorem szN (l : List Vr) (n : Nat) : sz (l.take (n + 1)) = sz (l.take n) * (match l[n]? with | some v => wd v | none => 1) := by
 unfold sz
 rw [List.take_add_one, List.foldl_append]
 cases l[n]? <;> simp
theorem sz_next {l : List Vr} {i : Nat} {d : Vr} (h : i < l.length) : sz (l.take (i + 1)) = sz (l.take i) * wd (l.getD i d) := by
 rw [szN, List.getElem?_eq_getElem h, getD_lt h]
theorem mul_le {a b : Int} {p : Nat} (h1 : 1 ≤ a) (h2 : a ≤ 20 ^ p) (h3 : 1 ≤ b ∧ b ≤ 20) : 1 ≤ a * b ∧ a * b ≤ 20 ^ (p + 1) := by
 constructor
 ·have := Int.mul_le_mul h1 h3.1 (by omega) (by omega); simpa using this
 ·rw [Int.pow_succ]; exact Int.mul_le_mul h2 h3.2 (by omega) (by have : (0:Int) < 20 ^ p := Int.pow_pos (by omega); omega)
theorem sz_pos : ∀ (l : List Vr), (∀ v ∈ l, vOk v) → ∀ i, i ≤ l.length → 1 ≤ sz (l.take i) ∧ sz (l.take i) ≤ 20 ^ i := by
 intro l hl i
 induction i with
 | zero => intro _; simp [sz]
 | succ i ih =>
  intro hi
  rw [sz_next (d := (0, 0, 0)) (by omega)]
  exact mul_le (ih (by omega)).1 (ih (by omega)).2 (wd_ok (hl _ (getD_mem (by omega))))
theorem mul_bd {a b : Int} (h1 : 1 ≤ a ∧ a ≤ 3200000) (h3 : 1 ≤ b ∧ b ≤ 20) : 1 ≤ a * b ∧ a * b ≤ 64000000 := by
 constructor
 ·have := Int.mul_le_mul h1.1 h3.1 (by omega) (by omega); simpa using this
 ·have := Int.mul_le_mul h1.2 h3.2 (by omega) (by omega); omega
theorem pow20 {i : Nat} (h : i ≤ 5) : (20 : Int) ^ i ≤ 3200000 := by
 have : i = 0 ∨ i = 1 ∨ i = 2 ∨ i = 3 ∨ i = 4 ∨ i = 5 := by omega
 rcases this with rfl | rfl | rfl | rfl | rfl | rfl <;> decide
theorem all_get {α : Type} {l : List α} {p : α → Prop} {d : α} (h : ∀ i, i < l.length → p (l.getD i d)) : ∀ x ∈ l, p x := by
 intro x hx
 obtain ⟨i, hi, rfl⟩ := List.getElem_of_mem hx
 have := h i hi
 rwa [getD_lt hi] at this
theorem sz_get {l : List Vr} {i : Nat} (h5 : l.length ≤ 5) (hi : i ≤ l.length) (h : ∀ j, j < i → vOk (l.getD j (0, 0, 0))) : 1 ≤ sz (l.take i) ∧ sz (l.take i) ≤ 3200000 := by
 have h1 := sz_pos (l.take i) (fun v hv => by
  obtain ⟨j, hj, rfl⟩ := List.getElem_of_mem hv
  rw [List.length_take] at hj
  have := h j (by omega)
  rw [getD_lt (by omega)] at this
  simpa using this) i (by simp; omega)
 rw [List.take_take, Nat.min_self] at h1
 have := pow20 (i := i) (by omega)
 omega
theorem C_spec_SystemValid (s : Sy) (hs : FewSy s) (Q : List AV → Prop) : mc.C f_spec_SystemValid [⟨L V3, s.1⟩, ⟨L TR, s.2⟩] Q = Q [⟨B, decide (valid s)⟩] := by
 obtain ⟨h1, h2, h3⟩ := hs
 have b1 := few_lim h1
 have b2 := few_lim h2
 refine Mc.Ends.c (mc.ends F_spec_SystemValid ?_)
 generalize hK : decide (valid s) = K
 simp (contextual := true) (maxSteps := 1000000) (disch := omega) only [↓Sd, ↓So, ↓Sk, ↓den, ↓denA, Sa, Sb, Sc, Se, O1.d, O2.d, O3.d, cmI, arI, envOf, putN, ↓reduceIte, Nat.reduceLT, Nat.reduceSub, Nat.reduceAdd, Int.reduceAdd, Int.reduceEq, Int.reduceLT, Int.reduceLE, arr_pos, arr_neg, tr_spec_SystemValid, C_spec_l1In]
 refine ⟨fun g => ?_, fun g1 => ⟨fun g => ?_, fun g2 => ?_⟩⟩
 ·rw [← hK, decide_eq_false]; exact fun h => g (by have := h.1; omega)
 ·rw [← hK, decide_eq_false]; exact fun h => by have := h.2.1; omega
 refine mc.lp_for Int (fun i n => [⟨I, n⟩, ⟨I, (i : Int)⟩, ⟨L V3, s.1⟩, ⟨L TR, s.2⟩]) (fun i n => n = sz (s.1.take i) ∧ ∀ j, j < i → vOk (s.1.getD j (0, 0, 0))) s.1.length 0 1 _ rfl (Nat.zero_le _) ⟨rfl, fun j hj => absurd hj (Nat.not_lt_zero _)⟩ ?_ ?_
 ·rintro i n hi ⟨rfl, hv⟩
  have hn := sz_get (by omega) (by omega) hv
  have hno : ¬ vOk (s.1.getD i (0, 0, 0)) → false = K := fun h => by rw [← hK, decide_eq_false]; exact fun h1 => h (h1.2.2.1 _ (getD_mem hi))
  simp (contextual := true) (maxSteps := 1000000) (disch := omega) only [↓Sd, ↓So, ↓Sk, ↓den, ↓denA, Sa, Sb, Sc, Se, O1.d, O2.d, O3.d, cmI, arI, envOf, putN, ↓reduceIte, Nat.reduceLT, Nat.reduceSub, Nat.reduceAdd, Int.reduceAdd, Int.reduceEq, Int.reduceLT, Int.reduceLE, arr_pos, arr_neg, C_spec_l2Var]
  refine ⟨hno, fun hy => ?_⟩
  have hw := wd_ok hy
  have hm := mul_bd hn hw
  have hw2 := hy
  unfold vOk at hw2
  unfold wd at hm
  simp (contextual := true) (maxSteps := 1000000) (disch := omega) only [↓Sd, ↓So, ↓Sk, ↓den, ↓denA, Sa, Sb, Sc, Se, O1.d, O2.d, O3.d, cmI, arI, envOf, putN, ↓reduceIte, Nat.reduceLT, Nat.reduceSub, Nat.reduceAdd, Int.reduceAdd, Int.reduceEq, Int.reduceLT, Int.reduceLE, arr_pos, arr_neg, ]
  refine ⟨by rw [sz_next (d := (0, 0, 0)) hi]; rfl, fun j hj => ?_⟩
  rcases Nat.lt_succ_iff_lt_or_eq.1 hj with h | rfl
  ·exact hv j h
  ·exact hy
 ·rintro n ⟨rfl, hv⟩
  rw [List.take_length]
  have hn := sz_get (by omega) (Nat.le_refl _) hv
  rw [List.take_length] at hn
  simp (contextual := true) (maxSteps := 1000000) (disch := omega) only [↓Sd, ↓So, ↓Sk, ↓den, ↓denA, Sa, Sb, Sc, Se, O1.d, O2.d, O3.d, cmI, arI, envOf, putN, ↓reduceIte, Nat.reduceLT, Nat.reduceSub, Nat.reduceAdd, Int.reduceAdd, Int.reduceEq, Int.reduceLT, Int.reduceLE, arr_pos, arr_neg, ]
  refine lp_all (fun i => [⟨I, sz s.1⟩, ⟨I, (i : Int)⟩, ⟨L V3, s.1⟩, ⟨L TR, s.2⟩]) (fun i => rOk (s.2.getD i ([], [], [])) s.1.length) s.2.length _ rfl ?_ ?_
  ·intro i hi
   have hno : ¬ rOk (s.2.getD i ([], [], [])) s.1.length → false = K := fun h => by rw [← hK, decide_eq_false]; exact fun h1 => h (h1.2.2.2.1 _ (getD_mem hi))
   have h4 := h3 _ (getD_mem (d := ([], [], [])) hi)
   simp (contextual := true) (maxSteps := 1000000) (disch := omega) only [↓Sd, ↓So, ↓Sk, ↓den, ↓denA, Sa, Sb, Sc, Se, O1.d, O2.d, O3.d, cmI, arI, envOf, putN, ↓reduceIte, Nat.reduceLT, Nat.reduceSub, Nat.reduceAdd, Int.reduceAdd, Int.reduceEq, Int.reduceLT, Int.reduceLE, arr_pos, arr_neg, C_spec_l2Rule (s.2.getD i ([], [], [])) (s.1.length : Int) (by omega) h4]
   exact hno
  ·intro h
   simp (contextual := true) (maxSteps := 1000000) (disch := omega) only [↓Sd, ↓So, ↓Sk, ↓den, ↓denA, Sa, Sb, Sc, Se, O1.d, O2.d, O3.d, cmI, arI, envOf, putN, ↓reduceIte, Nat.reduceLT, Nat.reduceSub, Nat.reduceAdd, Int.reduceAdd, Int.reduceEq, Int.reduceLT, Int.reduceLE, arr_pos, arr_neg, ]
   rw [← hK]
   have a1 := all_get hv
   have a2 := all_get (p := fun r => rOk r s.1.length) h
   by_cases h4 : sz s.1 ≤ 400
   ·rw [decide_eq_true h4, decide_eq_true]; exact ⟨by omega, by omega, a1, a2, h4⟩
   ·rw [decide_eq_false h4, decide_eq_false]; exact fun h => h4 h.2.2.2.2
theorem C_impl_size (l : List Vr) (h5 : l.length ≤ 5) (hv : ∀ v ∈ l, vOk v) (Q : List AV → Prop) : mc.C f_impl_size [⟨L V3, l⟩] Q = Q [⟨I, sz l⟩] := by
 refine Mc.Ends.c (mc.ends F_impl_size ?_)
 simp (contextual := true) (maxSteps := 1000000) (disch := omega) only [↓Sd, ↓So, ↓Sk, ↓den, ↓denA, Sa, Sb, Sc, Se, O1.d, O2.d, O3.d, cmI, arI, envOf, putN, ↓reduceIte, Nat.reduceLT, Nat.reduceSub, Nat.reduceAdd, Int.reduceAdd, Int.reduceEq, Int.reduceLT, Int.reduceLE, arr_pos, arr_neg, tr_impl_size]
 refine mc.lp_for Int (fun i n => [⟨I, n⟩, ⟨L V3, l⟩, ⟨I, (l.length : Int)⟩, ⟨I, (i : Int)⟩]) (fun i n => n = sz (l.take i)) l.length 0 1 _ rfl (Nat.zero_le _) rfl ?_ ?_
 ·rintro i n hi rfl
  have hn := sz_get (l := l) h5 (by omega) fun j hj => hv _ (getD_mem (Nat.lt_trans hj hi))
  have hy := hv _ (getD_mem (d := (0, 0, 0)) hi)
  have hw := wd_ok hy
  have hm := mul_bd hn hw
  unfold vOk at hy
  unfold wd at hm
  simp (contextual := true) (maxSteps := 1000000) (disch := omega) only [↓Sd, ↓So, ↓Sk, ↓den, ↓denA, Sa, Sb, Sc, Se, O1.d, O2.d, O3.d, cmI, arI, envOf, putN, ↓reduceIte, Nat.reduceLT, Nat.reduceSub, Nat.reduceAdd, Int.reduceAdd, Int.reduceEq, Int.reduceLT, Int.reduceLE, arr_pos, arr_neg, ]
  rw [sz_next (d := (0, 0, 0)) hi]; rfl
 ·rintro n rfl
  simp (contextual := true) (maxSteps := 1000000) (disch := omega) only [↓Sd, ↓So, ↓Sk, ↓den, ↓denA, Sa, Sb, Sc, Se, O1.d, O2.d, O3.d, cmI, arI, envOf, putN, ↓reduceIte, Nat.reduceLT, Nat.reduceSub, Nat.reduceAdd, Int.reduceAdd, Int.reduceEq, Int.reduceLT, Int.reduceLE, arr_pos, arr_neg, ]
  rw [List.take_length]
theorem C_impl_SystemValid (s : Sy) (hs : FewSy s) (Q : List AV → Prop) : mc.C f_impl_SystemValid [⟨L V3, s.1⟩, ⟨L TR, s.2⟩] Q = Q [⟨B, decide (valid s)⟩] := by
 obtain ⟨h1, h2, h3⟩ := hs
 have b1 := few_lim h1
 have b2 := few_lim h2
 refine Mc.Ends.c (mc.ends F_impl_SystemValid ?_)
 generalize hK : decide (valid s) = K
 simp (contextual := true) (maxSteps := 1000000) (disch := omega) only [↓Sd, ↓So, ↓Sk, ↓den, ↓denA, Sa, Sb, Sc, Se, O1.d, O2.d, O3.d, cmI, arI, envOf, putN, ↓reduceIte, Nat.reduceLT, Nat.reduceSub, Nat.reduceAdd, Int.reduceAdd, Int.reduceEq, Int.reduceLT, Int.reduceLE, arr_pos, arr_neg, tr_impl_SystemValid]
 refine mc.wp_join (fun us => us = [⟨L V3, s.1⟩, ⟨L TR, s.2⟩] ∧ (1 ≤ s.1.length ∧ s.1.length ≤ 5) ∧ s.2.length ≤ 8 ∧ (∀ v ∈ s.1, vOk v) ∧ sz s.1 ≤ 400) ?_ ?_
 ·simp (contextual := true) (maxSteps := 1000000) (disch := omega) only [↓Sd, ↓So, ↓Sk, ↓den, ↓denA, Sa, Sb, Sc, Se, O1.d, O2.d, O3.d, cmI, arI, envOf, putN, ↓reduceIte, Nat.reduceLT, Nat.reduceSub, Nat.reduceAdd, Int.reduceAdd, Int.reduceEq, Int.reduceLT, Int.reduceLE, arr_pos, arr_neg, C_impl_in]
  refine ⟨fun g => ?_, fun g1 => ⟨fun g => ?_, fun g2 => ?_⟩⟩
  ·rw [← hK, decide_eq_false]; exact fun h => g (by have := h.1; omega)
  ·rw [← hK, decide_eq_false]; exact fun h => by have := h.2.1; omega
  refine lp_all (fun i => [⟨L V3, s.1⟩, ⟨I, (s.1.length : Int)⟩, ⟨I, (i : Int)⟩, ⟨L V3, s.1⟩, ⟨L TR, s.2⟩]) (fun i => vOk (s.1.getD i (0, 0, 0))) s.1.length _ rfl ?_ ?_
  ·intro i hi
   have hno : ¬ vOk (s.1.getD i (0, 0, 0)) → false = K := fun h => by rw [← hK, decide_eq_false]; exact fun h1 => h (h1.2.2.1 _ (getD_mem hi))
   simp (contextual := true) (maxSteps := 1000000) (disch := omega) only [↓Sd, ↓So, ↓Sk, ↓den, ↓denA, Sa, Sb, Sc, Se, O1.d, O2.d, O3.d, cmI, arI, envOf, putN, ↓reduceIte, Nat.reduceLT, Nat.reduceSub, Nat.reduceAdd, Int.reduceAdd, Int.reduceEq, Int.reduceLT, Int.reduceLE, arr_pos, arr_neg, C_impl_varOk]
   exact hno
  ·intro hv
   have hv := all_get hv
   simp (contextual := true) (maxSteps := 1000000) (disch := omega) only [↓Sd, ↓So, ↓Sk, ↓den, ↓denA, Sa, Sb, Sc, Se, O1.d, O2.d, O3.d, cmI, arI, envOf, putN, ↓reduceIte, Nat.reduceLT, Nat.reduceSub, Nat.reduceAdd, Int.reduceAdd, Int.reduceEq, Int.reduceLT, Int.reduceLE, arr_pos, arr_neg, C_impl_size s.1 (by omega) hv]
   refine ⟨fun h => ?_, fun h => ⟨by omega, by omega, hv, by omega⟩⟩
   rw [← hK, decide_eq_false]; exact fun h1 => by have := h1.2.2.2.2; omega
 rintro _ ⟨rfl, g1, g2, g3, g4⟩
 simp (contextual := true) (maxSteps := 1000000) (disch := omega) only [↓Sd, ↓So, ↓Sk, ↓den, ↓denA, Sa, Sb, Sc, Se, O1.d, O2.d, O3.d, cmI, arI, envOf, putN, ↓reduceIte, Nat.reduceLT, Nat.reduceSub, Nat.reduceAdd, Int.reduceAdd, Int.reduceEq, Int.reduceLT, Int.reduceLE, arr_pos, arr_neg, ]
 refine lp_all (fun i => [⟨L TR, s.2⟩, ⟨I, (s.2.length : Int)⟩, ⟨I, (i : Int)⟩, ⟨L V3, s.1⟩, ⟨L TR, s.2⟩]) (fun i => rOk (s.2.getD i ([], [], [])) s.1.length) s.2.length _ rfl ?_ ?_
 ·intro i hi
  have hno : ¬ rOk (s.2.getD i ([], [], [])) s.1.length → false = K := fun h => by rw [← hK, decide_eq_false]; exact fun h1 => h (h1.2.2.2.1 _ (getD_mem hi))
  have h4 := h3 _ (getD_mem (d := ([], [], [])) hi)
  simp (contextual := true) (maxSteps := 1000000) (disch := omega) only [↓Sd, ↓So, ↓Sk, ↓den, ↓denA, Sa, Sb, Sc, Se, O1.d, O2.d, O3.d, cmI, arI, envOf, putN, ↓reduceIte, Nat.reduceLT, Nat.reduceSub, Nat.reduceAdd, Int.reduceAdd, Int.reduceEq, Int.reduceLT, Int.reduceLE, arr_pos, arr_neg, C_impl_ruleOk (s.2.getD i ([], [], [])) (s.1.length : Int) (by omega) h4]
  intro h
  have := hno h
  have h0 : (i : Int) ≥ 0 := by omega
  simpa [h0] using this
 ·intro h
  simp (contextual := true) (maxSteps := 1000000) (disch := omega) only [↓Sd, ↓So, ↓Sk, ↓den, ↓denA, Sa, Sb, Sc, Se, O1.d, O2.d, O3.d, cmI, arI, envOf, putN, ↓reduceIte, Nat.reduceLT, Nat.reduceSub, Nat.reduceAdd, Int.reduceAdd, Int.reduceEq, Int.reduceLT, Int.reduceLE, arr_pos, arr_neg, ]
  rw [← hK]
  have a2 := all_get (p := fun r => rOk r s.1.length) h
  rw [decide_eq_true (show valid s from ⟨g1, g2, g3, a2, g4⟩)]
  rfl
def hd (n : Int) : Int := if n > 9999 then 9999 else if n < -9999 then -9999 else n
def doM (o a b : Int) : Int :=
 if o = 2 then hd (a + b) else if o = 3 then hd (a - b) else if o = 4 then hd (a * b)
 else if o = 5 then (if a < b then 1 else 0) else if o = 6 then (if a = b then 1 else 0)
 else if o = 7 then 1 - a else if o = 8 then a * b else (if a + b > 0 then 1 else 0)
def Bd4 (n : Int) : Prop := -9999 ≤ n ∧ n ≤ 9999
def Bit (n : Int) : Prop := n = 0 ∨ n = 1
theorem hd_bd (n : Int) : Bd4 (hd n) := by
 unfold hd Bd4
 split
 ·omega
 ·split <;> omega
theorem mul4 {a b : Int} (ha : Bd4 a) (hb : Bd4 b) : -100000000 ≤ a * b ∧ a * b ≤ 100000000 := by
 unfold Bd4 at ha hb
 have h1 : a.natAbs ≤ 9999 := by omega
 have h2 : b.natAbs ≤ 9999 := by omega
 have h3 : (a * b).natAbs ≤ 9999 * 9999 := by rw [Int.natAbs_mul]; exact Nat.mul_le_mul h1 h2
 omega
theorem C_spec_l1Held (n : Int) (Q : List AV → Prop) : mc.C f_spec_l1Held [⟨I, n⟩] Q = Q [⟨I, hd n⟩] := by
 refine Mc.Ends.c (mc.ends F_spec_l1Held ?_)
 generalize hK : hd n = K
 simp (contextual := true) (maxSteps := 1000000) (disch := omega) only [↓Sd, ↓So, ↓Sk, ↓den, ↓denA, Sa, Sb, Sc, Se, O1.d, O2.d, O3.d, cmI, arI, envOf, putN, ↓reduceIte, Nat.reduceLT, Nat.reduceSub, Nat.reduceAdd, Int.reduceAdd, Int.reduceEq, Int.reduceLT, Int.reduceLE, arr_pos, arr_neg, tr_spec_l1Held]
 unfold hd at hK
 grind
theorem C_impl_held (n : Int) (Q : List AV → Prop) : mc.C f_impl_held [⟨I, n⟩] Q = Q [⟨I, hd n⟩] := by
 refine Mc.Ends.c (mc.ends F_impl_held ?_)
 generalize hK : hd n = K
 simp (contextual := true) (maxSteps := 1000000) (disch := omega) only [↓Sd, ↓So, ↓Sk, ↓den, ↓denA, Sa, Sb, Sc, Se, O1.d, O2.d, O3.d, cmI, arI, envOf, putN, ↓reduceIte, Nat.reduceLT, Nat.reduceSub, Nat.reduceAdd, Int.reduceAdd, Int.reduceEq, Int.reduceLT, Int.reduceLE, arr_pos, arr_neg, tr_impl_held]
 unfold hd at hK
 grind
theorem C_spec_l1Truth (b : Bool) (Q : List AV → Prop) : mc.C f_spec_l1Truth [⟨B, b⟩] Q = Q [⟨I, if b = true then 1 else 0⟩] := by
 refine Mc.Ends.c (mc.ends F_spec_l1Truth ?_)
 generalize hK : (if b = true then (1 : Int) else 0) = K
 simp (contextual := true) (maxSteps := 1000000) (disch := omega) only [↓Sd, ↓So, ↓Sk, ↓den, ↓denA, Sa, Sb, Sc, Se, O1.d, O2.d, O3.d, cmI, arI, envOf, putN, ↓reduceIte, Nat.reduceLT, Nat.reduceSub, Nat.reduceAdd, Int.reduceAdd, Int.reduceEq, Int.reduceLT, Int.reduceLE, arr_pos, arr_neg, tr_spec_l1Truth]
 grind
theorem C_impl_bit (b : Bool) (Q : List AV → Prop) : mc.C f_impl_bit [⟨B, b⟩] Q = Q [⟨I, if b = true then 1 else 0⟩] := by
 refine Mc.Ends.c (mc.ends F_impl_bit ?_)
 generalize hK : (if b = true then (1 : Int) else 0) = K
 simp (contextual := true) (maxSteps := 1000000) (disch := omega) only [↓Sd, ↓So, ↓Sk, ↓den, ↓denA, Sa, Sb, Sc, Se, O1.d, O2.d, O3.d, cmI, arI, envOf, putN, ↓reduceIte, Nat.reduceLT, Nat.reduceSub, Nat.reduceAdd, Int.reduceAdd, Int.reduceEq, Int.reduceLT, Int.reduceLE, arr_pos, arr_neg, tr_impl_bit]
 grind
theorem C_spec_l1Do (o a b : Int) (ha : Bd4 a) (hb : Bd4 b) (Q : List AV → Prop) : mc.C f_spec_l1Do [⟨I, o⟩, ⟨I, a⟩, ⟨I, b⟩] Q = Q [⟨I, doM o a b⟩] := by
 have hm := mul4 ha hb
 unfold Bd4 at ha hb
 refine Mc.Ends.c (mc.ends F_spec_l1Do ?_)
 generalize hK : doM o a b = K
 simp (contextual := true) (maxSteps := 1000000) (disch := omega) only [↓Sd, ↓So, ↓Sk, ↓den, ↓denA, Sa, Sb, Sc, Se, O1.d, O2.d, O3.d, cmI, arI, envOf, putN, ↓reduceIte, Nat.reduceLT, Nat.reduceSub, Nat.reduceAdd, Int.reduceAdd, Int.reduceEq, Int.reduceLT, Int.reduceLE, arr_pos, arr_neg, tr_spec_l1Do, C_spec_l1Held, C_spec_l1Truth]
 unfold doM at hK
 grind (splits := 30)
theorem C_impl_do (o a b : Int) (ha : Bd4 a) (hb : Bd4 b) (ho : 2 ≤ o ∧ o ≤ 9) (h8 : 8 ≤ o → Bit a ∧ Bit b) (Q : List AV → Prop) : mc.C f_impl_do [⟨I, o⟩, ⟨I, a⟩, ⟨I, b⟩] Q = Q [⟨I, doM o a b⟩] := by
 have hm := mul4 ha hb
 unfold Bd4 at ha hb
 refine Mc.Ends.c (mc.ends F_impl_do ?_)
 generalize hK : doM o a b = K
 simp (contextual := true) (maxSteps := 1000000) (disch := omega) only [↓Sd, ↓So, ↓Sk, ↓den, ↓denA, Sa, Sb, Sc, Se, O1.d, O2.d, O3.d, cmI, arI, envOf, putN, ↓reduceIte, Nat.reduceLT, Nat.reduceSub, Nat.reduceAdd, Int.reduceAdd, Int.reduceEq, Int.reduceLT, Int.reduceLE, arr_pos, arr_neg, tr_impl_do, C_impl_held, C_impl_bit]
 unfold doM at hK
 unfold Bit at h8
 grind (splits := 30)
theorem doM_bd {o a b : Int} (ha : Bd4 a) (hb : Bd4 b) (h7 : 7 ≤ o → Bit a ∧ Bit b) : Bd4 (doM o a b) := by
 unfold doM
 have h1 := hd_bd (a + b); have h2 := hd_bd (a - b); have h3 := hd_bd (a * b)
 unfold Bd4 Bit at *
 grind (splits := 30)
theorem doM_bit {o a b : Int} (ho : 5 ≤ o) (h7 : 7 ≤ o → Bit a ∧ Bit b) : Bit (doM o a b) := by
 unfold doM
 unfold Bit at *
 grind
def ev1 (st : List Int) (t : Tm) (vs : List Int) : Int :=
 if t.1 = 0 then t.2.1 else if t.1 = 1 then st.getD t.2.1.toNat 0 else doM t.1 (vs.getD t.2.2.1.toNat 0) (vs.getD t.2.2.2.toNat 0)
def evs (st : List Int) : List Tm → List Int → List Int
 | [], vs => vs
 | t :: l, vs => evs st l (vs ++ [ev1 st t vs])
def evl (l : List Tm) (st : List Int) : Int := (evs st l []).getD (l.length - 1) 0
def KV (ks vs : List Int) : Prop := ks.length = vs.length ∧ ∀ j, j < vs.length → Bd4 (vs.getD j 0) ∧ (ks.getD j 0 = 2 → Bit (vs.getD j 0))
def Bds (st : List Int) : Prop := ∀ j, j < st.length → Bd4 (st.getD j 0)
theorem getD_snoc {l : List Int} {x : Int} {j : Nat} : (l ++ [x]).getD j 0 = if j < l.length then l.getD j 0 else if j = l.length then x else 0 := by
 simp only [List.getD_eq_getElem?_getD, List.getElem?_append]
 by_cases h1 : j < l.length
 ·simp [h1]
 ·by_cases h2 : j = l.length
  ·simp [h2]
  ·have : (j - l.length) ≠ 0 := by omega
   simp [h1, h2, List.getElem?_singleton, this]
theorem of_ite_ne {p : Prop} [Decidable p] {x : Int} (h : (if p then x else 0) ≠ 0) : p := Classical.byContradiction fun hn => h (if_neg hn)
theorem kd_ne {t : Tm} {ks : List Int} {vars : Int} (h : kd t ks vars ≠ 0) : (t.1 = 0 ∧ Bd4 t.2.1) ∨ (t.1 = 1 ∧ 0 ≤ t.2.1 ∧ t.2.1 < vars) ∨
  ((2 ≤ t.1 ∧ t.1 ≤ 9) ∧ (0 ≤ t.2.2.1 ∧ t.2.2.1 < ks.length) ∧ (0 ≤ t.2.2.2 ∧ t.2.2.2 < ks.length) ∧ (7 ≤ t.1 → ks.getD t.2.2.1.toNat 0 = 2 ∧ ks.getD t.2.2.2.toNat 0 = 2)) := by
 unfold kd at h
 split at h
 ·rename_i h0
  split at h
  ·rename_i h1; exact .inl ⟨h0, h1.1, h1.2.1⟩
  ·exact absurd rfl h
 ·split at h
  ·rename_i h0
   split at h
   ·rename_i h1; exact .inr (.inl ⟨h0, h1.1, by omega⟩)
   ·exact absurd rfl h
  ·obtain ⟨a1, a2, a3, a4, a5, a6, a7, a8⟩ := of_ite_ne h
   exact .inr (.inr ⟨⟨a1, a2⟩, a4, a5, fun h7 => by rw [if_pos h7] at a6 a7; exact ⟨a6, a7⟩⟩)
theorem KV.args {ks vs st : List Int} {t : Tm} (hkv : KV ks vs) (h : (2 ≤ t.1 ∧ t.1 ≤ 9) ∧ (0 ≤ t.2.2.1 ∧ t.2.2.1 < ks.length) ∧ (0 ≤ t.2.2.2 ∧ t.2.2.2 < ks.length) ∧ (7 ≤ t.1 → ks.getD t.2.2.1.toNat 0 = 2 ∧ ks.getD t.2.2.2.toNat 0 = 2)) :
  Bd4 (vs.getD t.2.2.1.toNat 0) ∧ Bd4 (vs.getD t.2.2.2.toNat 0) ∧ (7 ≤ t.1 → Bit (vs.getD t.2.2.1.toNat 0) ∧ Bit (vs.getD t.2.2.2.toNat 0)) := by
 obtain ⟨h1, h2, h3, h4⟩ := h
 have hl := hkv.1
 have g1 := hkv.2 t.2.2.1.toNat (by omega)
 have g2 := hkv.2 t.2.2.2.toNat (by omega)
 exact ⟨g1.1, g2.1, fun h7 => ⟨g1.2 (h4 h7).1, g2.2 (h4 h7).2⟩⟩
theorem KV.next {ks vs st : List Int} {t : Tm} {vars : Int} (hkv : KV ks vs) (hst : Bds st) (hv : vars = st.length) (h : kd t ks vars ≠ 0) : KV (ks ++ [kd t ks vars]) (vs ++ [ev1 st t vs]) := by
 have hk := kd_low h
 have hlen := hkv.1
 refine ⟨by simp [hkv.1], fun j hj => ?_⟩
 simp only [List.length_append, List.length_cons, List.length_nil, Nat.zero_add] at hj
 rw [getD_snoc, getD_snoc, hkv.1]
 by_cases h1 : j < vs.length
 ·rw [if_pos h1, if_pos h1]; exact hkv.2 j h1
 ·have h2 : j = vs.length := by omega
  rw [if_neg h1, if_neg h1, if_pos h2, if_pos h2, hk]
  rcases kd_ne h with ⟨e, h3⟩ | ⟨e, h3, h4⟩ | h3
  ·unfold ev1; rw [if_pos e]; exact ⟨h3, by intro h; rw [if_neg (by omega)] at h; omega⟩
  ·unfold ev1; rw [if_neg (by omega), if_pos e]; exact ⟨hst _ (by omega), by intro h; rw [if_neg (by omega)] at h; omega⟩
  ·obtain ⟨a1, a2, a3⟩ := hkv.args (st := st) h3
   unfold ev1; rw [if_neg (by omega), if_neg (by omega)]
   exact ⟨doM_bd a1 a2 a3, fun h5 => doM_bit (by split at h5 <;> omega) a3⟩
theorem evs_len {st : List Int} : ∀ {l : List Tm} {vs : List Int}, (evs st l vs).length = vs.length + l.length
 | [], vs => by simp [evs]
 | t :: l, vs => by simp only [evs, evs_len, List.length_append, List.length_cons, List.length_nil]; omega
theorem KV.all {st : List Int} {vars : Int} (hst : Bds st) (hv : vars = st.length) : ∀ {l : List Tm} {ks vs o : List Int}, KV ks vs → kds vars l ks = some o → KV o (evs st l vs)
 | [], ks, vs, o, h, e => by cases e; exact h
 | t :: l, ks, vs, o, h, e => by
  simp only [kds] at e
  split at e
  ·cases e
  ·rename_i h0
   show KV o (evs st l (vs ++ [ev1 st t vs]))
   exact KV.all hst hv (h.next hst hv h0) e
theorem KV.nil : KV [] [] := ⟨rfl, fun j hj => absurd hj (Nat.not_lt_zero _)⟩
theorem kf_some {l : List Tm} {vars : Int} (h : kf l vars ≠ 0) : ∃ o, kds vars l [] = some o ∧ (1 ≤ l.length ∧ l.length ≤ 40) ∧ kf l vars = o.getD (l.length - 1) 0 := by
 unfold kf kdsOf at h ⊢
 split at h
 ·rename_i h1
  rw [if_pos h1]
  cases ho : kds vars l [] with
  | none => rw [ho] at h; exact absurd rfl h
  | some o =>
   refine ⟨o, rfl, h1.2, ?_⟩
   have := kds_len ho
   simp only [List.length_nil, Nat.zero_add] at this
   rw [Option.getD_some, List.getLastD_eq_getLast?, List.getLast?_eq_getElem?, this]
   rfl
 ·exact absurd rfl h
theorem evl_bit {l : List Tm} {vars : Int} {st : List Int} (h : kf l vars = 2) (hst : Bds st) (hv : vars = st.length) : Bit (evl l st) := by
 obtain ⟨o, h1, h2, h3⟩ := kf_some (l := l) (vars := vars) (by omega)
 have := KV.all hst hv KV.nil h1
 exact (this.2 _ (by rw [evs_len]; simp; omega)).2 (by rw [← h3]; exact h)
theorem C_spec_l1Values (l : List Tm) (st : List Int) (vars : Int) (h : kf l vars ≠ 0) (hst : Bds st) (hv : vars = st.length) (Q : List AV → Prop) : mc.C f_spec_l1Values [⟨L T4, l⟩, ⟨L I, st⟩] Q = Q [⟨L I, evs st l []⟩] := by
 obtain ⟨o, h1, h2, h3⟩ := kf_some h
 refine Mc.Ends.c (mc.ends F_spec_l1Values ?_)
 simp (contextual := true) (maxSteps := 1000000) (disch := omega) only [↓Sd, ↓So, ↓Sk, ↓den, ↓denA, Sa, Sb, Sc, Se, O1.d, O2.d, O3.d, cmI, arI, envOf, putN, ↓reduceIte, Nat.reduceLT, Nat.reduceSub, Nat.reduceAdd, Int.reduceAdd, Int.reduceEq, Int.reduceLT, Int.reduceLE, arr_pos, arr_neg, tr_spec_l1Values]
 refine mc.lp_for (List Int) (fun i vs => [⟨L T4, l⟩, ⟨L I, st⟩, ⟨I, (i : Int)⟩, ⟨L I, vs⟩]) (fun i vs => vs.length = i ∧ evs st (l.drop i) vs = evs st l [] ∧ ∃ ks, KV ks vs ∧ kds vars (l.drop i) ks = some o) l.length 0 [] _ rfl (Nat.zero_le _) ⟨rfl, rfl, [], KV.nil, h1⟩ ?_ ?_
 ·rintro i vs hi ⟨hl, hs, ks, hkv, hk⟩
  rw [drop_cons (d := (0, 0, 0, 0)) hi] at hs hk
  simp only [evs, kds] at hs hk
  split at hk
  ·cases hk
  rename_i h0
  have hn := hkv.next hst hv h0
  have ha := kd_ne h0
  have hkl := hkv.1
  obtain ⟨t, ht⟩ : ∃ t, l.getD i (0, 0, 0, 0) = t := ⟨_, rfl⟩
  rw [ht] at hs hk h0 hn ha
  have hvs : (vs.length : Int) ≤ 40 := by omega
  simp (contextual := true) (maxSteps := 1000000) (disch := omega) only [↓Sd, ↓So, ↓Sk, ↓den, ↓denA, Sa, Sb, Sc, Se, O1.d, O2.d, O3.d, cmI, arI, envOf, putN, ↓reduceIte, Nat.reduceLT, Nat.reduceSub, Nat.reduceAdd, Int.reduceAdd, Int.reduceEq, Int.reduceLT, Int.reduceLE, arr_pos, arr_neg, ]
  refine mc.wp_join (fun us => us = [⟨L T4, l⟩, ⟨L I, st⟩, ⟨I, (i : Int)⟩, ⟨L I, vs ++ [ev1 st t vs]⟩]) ?_ ?_
  ·rcases ha with ⟨e, h3⟩ | ⟨e, h3, h4⟩ | h3
   ·simp (contextual := true) (maxSteps := 1000000) (disch := omega) only [↓Sd, ↓So, ↓Sk, ↓den, ↓denA, Sa, Sb, Sc, Se, O1.d, O2.d, O3.d, cmI, arI, envOf, putN, ↓reduceIte, Nat.reduceLT, Nat.reduceSub, Nat.reduceAdd, Int.reduceAdd, Int.reduceEq, Int.reduceLT, Int.reduceLE, arr_pos, arr_neg, ht, e, ev1]
   ·have e' : ¬ t.1 = 0 := by omega
    simp (contextual := true) (maxSteps := 1000000) (disch := omega) only [↓Sd, ↓So, ↓Sk, ↓den, ↓denA, Sa, Sb, Sc, Se, O1.d, O2.d, O3.d, cmI, arI, envOf, putN, ↓reduceIte, Nat.reduceLT, Nat.reduceSub, Nat.reduceAdd, Int.reduceAdd, Int.reduceEq, Int.reduceLT, Int.reduceLE, arr_pos, arr_neg, ht, e, ev1]
   ·obtain ⟨a1, a2, a3⟩ := hkv.args (st := st) h3
    have e1 : ¬ t.1 = 0 := by omega
    have e2 : ¬ t.1 = 1 := by omega
    simp (contextual := true) (maxSteps := 1000000) (disch := omega) only [↓Sd, ↓So, ↓Sk, ↓den, ↓denA, Sa, Sb, Sc, Se, O1.d, O2.d, O3.d, cmI, arI, envOf, putN, ↓reduceIte, Nat.reduceLT, Nat.reduceSub, Nat.reduceAdd, Int.reduceAdd, Int.reduceEq, Int.reduceLT, Int.reduceLE, arr_pos, arr_neg, ht, e1, e2, ev1, C_spec_l1Do _ _ _ a1 a2]
  ·rintro _ rfl
   simp (contextual := true) (maxSteps := 1000000) (disch := omega) only [↓Sd, ↓So, ↓Sk, ↓den, ↓denA, Sa, Sb, Sc, Se, O1.d, O2.d, O3.d, cmI, arI, envOf, putN, ↓reduceIte, Nat.reduceLT, Nat.reduceSub, Nat.reduceAdd, Int.reduceAdd, Int.reduceEq, Int.reduceLT, Int.reduceLE, arr_pos, arr_neg, ]
   exact ⟨by simp [hl], hs, _, hn, hk⟩
 ·rintro vs ⟨hl, hs, -⟩
  simp (contextual := true) (maxSteps := 1000000) (disch := omega) only [↓Sd, ↓So, ↓Sk, ↓den, ↓denA, Sa, Sb, Sc, Se, O1.d, O2.d, O3.d, cmI, arI, envOf, putN, ↓reduceIte, Nat.reduceLT, Nat.reduceSub, Nat.reduceAdd, Int.reduceAdd, Int.reduceEq, Int.reduceLT, Int.reduceLE, arr_pos, arr_neg, ]
  rw [List.drop_length] at hs
  exact hs
theorem C_spec_l2Last (l : List Tm) (st : List Int) (vars : Int) (h : kf l vars ≠ 0) (hst : Bds st) (hv : vars = st.length) (Q : List AV → Prop) : mc.C f_spec_l2Last [⟨L T4, l⟩, ⟨L I, st⟩] Q = Q [⟨I, evl l st⟩] := by
 obtain ⟨o, h1, h2, h3⟩ := kf_some h
 have hlen : (evs st l []).length = l.length := by rw [evs_len]; simp
 refine Mc.Ends.c (mc.ends F_spec_l2Last ?_)
 simp (contextual := true) (maxSteps := 1000000) (disch := omega) only [↓Sd, ↓So, ↓Sk, ↓den, ↓denA, Sa, Sb, Sc, Se, O1.d, O2.d, O3.d, cmI, arI, envOf, putN, ↓reduceIte, Nat.reduceLT, Nat.reduceSub, Nat.reduceAdd, Int.reduceAdd, Int.reduceEq, Int.reduceLT, Int.reduceLE, arr_pos, arr_neg, tr_spec_l2Last, C_spec_l1Values l st vars h hst hv]
 rfl
theorem getD_pad {l : List Int} {k j : Nat} : (l ++ List.replicate k 0).getD j 0 = l.getD j 0 := by
 simp only [List.getD_eq_getElem?_getD, List.getElem?_append]
 by_cases h1 : j < l.length
 ·simp [h1]
 ·simp only [h1, if_false]
  rw [List.getElem?_eq_none (by omega : l.length ≤ j), List.getElem?_replicate]
  split <;> rfl
theorem set_pad {α : Type} {l : List α} {k : Nat} {x z : α} : (l ++ List.replicate (k + 1) z).set l.length x = (l ++ [x]) ++ List.replicate k z := by
 rw [List.set_append_right _ _ (Nat.le_refl _), Nat.sub_self, List.replicate_succ, List.set_cons_zero, List.append_assoc]; rfl
theorem sub_split {n i : Nat} (h : i < n) : n - i = (n - (i + 1)) + 1 := by omega
theorem C_impl_eval (l : List Tm) (st : List Int) (vars : Int) (h : kf l vars ≠ 0) (hst : Bds st) (hv : vars = st.length) (Q : List AV → Prop) : mc.C f_impl_eval [⟨L T4, l⟩, ⟨L I, st⟩] Q = Q [⟨I, evl l st⟩] := by
 obtain ⟨o, h1, h2, h3⟩ := kf_some h
 refine Mc.Ends.c (mc.ends F_impl_eval ?_)
 simp (contextual := true) (maxSteps := 1000000) (disch := omega) only [↓Sd, ↓So, ↓Sk, ↓den, ↓denA, Sa, Sb, Sc, Se, O1.d, O2.d, O3.d, cmI, arI, envOf, putN, ↓reduceIte, Nat.reduceLT, Nat.reduceSub, Nat.reduceAdd, Int.reduceAdd, Int.reduceEq, Int.reduceLT, Int.reduceLE, arr_pos, arr_neg, tr_impl_eval]
 refine mc.lp_for (List Int) (fun i vs => [⟨L I, st⟩, ⟨L T4, l⟩, ⟨I, (l.length : Int)⟩, ⟨I, (i : Int)⟩, ⟨L I, vs ++ List.replicate (l.length - i) 0⟩]) (fun i vs => vs.length = i ∧ evs st (l.drop i) vs = evs st l [] ∧ ∃ ks, KV ks vs ∧ kds vars (l.drop i) ks = some o) l.length 0 [] _ rfl (Nat.zero_le _) ⟨rfl, rfl, [], KV.nil, h1⟩ ?_ ?_
 ·rintro i vs hi ⟨hl, hs, ks, hkv, hk⟩
  rw [drop_cons (d := (0, 0, 0, 0)) hi] at hs hk
  simp only [evs, kds] at hs hk
  split at hk
  ·cases hk
  rename_i h0
  have hn := hkv.next hst hv h0
  have ha := kd_ne h0
  have hkl := hkv.1
  obtain ⟨t, ht⟩ : ∃ t, l.getD i (0, 0, 0, 0) = t := ⟨_, rfl⟩
  rw [ht] at hs hk h0 hn ha
  have hvs : (vs.length : Int) ≤ 40 := by omega
  have hlen : (vs ++ List.replicate (l.length - i) (0 : Int)).length = l.length := by simp; omega
  have hset : ∀ x : Int, (vs ++ List.replicate (l.length - i) 0).set i x = (vs ++ [x]) ++ List.replicate (l.length - (i + 1)) 0 := by
   intro x; subst hl; rw [sub_split hi, set_pad]
  simp (contextual := true) (maxSteps := 1000000) (disch := omega) only [↓Sd, ↓So, ↓Sk, ↓den, ↓denA, Sa, Sb, Sc, Se, O1.d, O2.d, O3.d, cmI, arI, envOf, putN, ↓reduceIte, Nat.reduceLT, Nat.reduceSub, Nat.reduceAdd, Int.reduceAdd, Int.reduceEq, Int.reduceLT, Int.reduceLE, arr_pos, arr_neg, ]
  refine mc.wp_join (fun us => us = [⟨L I, st⟩, ⟨L T4, l⟩, ⟨I, (l.length : Int)⟩, ⟨I, (i : Int)⟩, ⟨L I, (vs ++ [ev1 st t vs]) ++ List.replicate (l.length - (i + 1)) 0⟩]) ?_ ?_
  ·rcases ha with ⟨e, h3⟩ | ⟨e, h3, h4⟩ | h3
   ·simp (contextual := true) (maxSteps := 1000000) (disch := omega) only [↓Sd, ↓So, ↓Sk, ↓den, ↓denA, Sa, Sb, Sc, Se, O1.d, O2.d, O3.d, cmI, arI, envOf, putN, ↓reduceIte, Nat.reduceLT, Nat.reduceSub, Nat.reduceAdd, Int.reduceAdd, Int.reduceEq, Int.reduceLT, Int.reduceLE, arr_pos, arr_neg, ht, e, ev1, hlen, hset]
   ·have e' : ¬ t.1 = 0 := by omega
    simp (contextual := true) (maxSteps := 1000000) (disch := omega) only [↓Sd, ↓So, ↓Sk, ↓den, ↓denA, Sa, Sb, Sc, Se, O1.d, O2.d, O3.d, cmI, arI, envOf, putN, ↓reduceIte, Nat.reduceLT, Nat.reduceSub, Nat.reduceAdd, Int.reduceAdd, Int.reduceEq, Int.reduceLT, Int.reduceLE, arr_pos, arr_neg, ht, e, ev1, hlen, hset]
   ·obtain ⟨a1, a2, a3⟩ := hkv.args (st := st) h3
    have e1 : ¬ t.1 = 0 := by omega
    have e2 : ¬ t.1 = 1 := by omega
    simp (contextual := true) (maxSteps := 1000000) (disch := omega) only [↓Sd, ↓So, ↓Sk, ↓den, ↓denA, Sa, Sb, Sc, Se, O1.d, O2.d, O3.d, cmI, arI, envOf, putN, ↓reduceIte, Nat.reduceLT, Nat.reduceSub, Nat.reduceAdd, Int.reduceAdd, Int.reduceEq, Int.reduceLT, Int.reduceLE, arr_pos, arr_neg, ht, e1, e2, ev1, hlen, hset, getD_pad, C_impl_do _ _ _ a1 a2 h3.1 fun h => a3 (by omega)]
  ·rintro _ rfl
   simp (contextual := true) (maxSteps := 1000000) (disch := omega) only [↓Sd, ↓So, ↓Sk, ↓den, ↓denA, Sa, Sb, Sc, Se, O1.d, O2.d, O3.d, cmI, arI, envOf, putN, ↓reduceIte, Nat.reduceLT, Nat.reduceSub, Nat.reduceAdd, Int.reduceAdd, Int.reduceEq, Int.reduceLT, Int.reduceLE, arr_pos, arr_neg, ]
   exact ⟨_, rfl, by simp [hl], hs, _, hn, hk⟩
 ·rintro vs ⟨hl, hs, -⟩
  rw [List.drop_length] at hs
  simp only [evs] at hs
  subst hs
  rw [Nat.sub_self, List.replicate_zero, List.append_nil]
  simp (contextual := true) (maxSteps := 1000000) (disch := omega) only [↓Sd, ↓So, ↓Sk, ↓den, ↓denA, Sa, Sb, Sc, Se, O1.d, O2.d, O3.d, cmI, arI, envOf, putN, ↓reduceIte, Nat.reduceLT, Nat.reduceSub, Nat.reduceAdd, Int.reduceAdd, Int.reduceEq, Int.reduceLT, Int.reduceLE, arr_pos, arr_neg, ]
  rw [hl]; rfl
def inR (vs : List Vr) (st : List Int) : Prop := st.length = vs.length ∧ ∀ i, i < vs.length → (vs.getD i (0, 0, 0)).1 ≤ st.getD i 0 ∧ st.getD i 0 ≤ (vs.getD i (0, 0, 0)).2.1
instance (vs : List Vr) (st : List Int) : Decidable (inR vs st) := by unfold inR; infer_instance
theorem inR.bds {vs : List Vr} {st : List Int} (h : inR vs st) (hv : ∀ v ∈ vs, vOk v) : Bds st := by
 intro j hj
 have h1 := h.2 j (by rw [← h.1]; exact hj)
 have h2 := hv _ (getD_mem (d := (0, 0, 0)) (by rw [← h.1]; exact hj))
 unfold vOk at h2
 unfold Bd4
 omega
theorem C_spec_l2In (s : Sy) (st : List Int) (h5 : s.1.length ≤ 5) (hl : st.length ≤ 1048576) (Q : List AV → Prop) : mc.C f_spec_l2In [⟨L V3, s.1⟩, ⟨L TR, s.2⟩, ⟨L I, st⟩] Q = Q [⟨B, decide (inR s.1 st)⟩] := by
 refine Mc.Ends.c (mc.ends F_spec_l2In ?_)
 generalize hK : decide (inR s.1 st) = K
 simp (contextual := true) (maxSteps := 1000000) (disch := omega) only [↓Sd, ↓So, ↓Sk, ↓den, ↓denA, Sa, Sb, Sc, Se, O1.d, O2.d, O3.d, cmI, arI, envOf, putN, ↓reduceIte, Nat.reduceLT, Nat.reduceSub, Nat.reduceAdd, Int.reduceAdd, Int.reduceEq, Int.reduceLT, Int.reduceLE, arr_pos, arr_neg, tr_spec_l2In]
 refine ⟨fun g => ?_, fun g1 => ?_⟩
 ·rw [← hK, decide_eq_false]; exact fun h => g (by rw [h.1])
 refine lp_all (fun i => [⟨L I, st⟩, ⟨I, (i : Int)⟩, ⟨L V3, s.1⟩, ⟨L TR, s.2⟩]) (fun i => (s.1.getD i (0, 0, 0)).1 ≤ st.getD i 0 ∧ st.getD i 0 ≤ (s.1.getD i (0, 0, 0)).2.1) s.1.length _ rfl ?_ ?_
 ·intro i hi
  have hno : ¬ ((s.1.getD i (0, 0, 0)).1 ≤ st.getD i 0 ∧ st.getD i 0 ≤ (s.1.getD i (0, 0, 0)).2.1) → false = K := fun h => by rw [← hK, decide_eq_false]; exact fun h1 => h (h1.2 i hi)
  simp (contextual := true) (maxSteps := 1000000) (disch := omega) only [↓Sd, ↓So, ↓Sk, ↓den, ↓denA, Sa, Sb, Sc, Se, O1.d, O2.d, O3.d, cmI, arI, envOf, putN, ↓reduceIte, Nat.reduceLT, Nat.reduceSub, Nat.reduceAdd, Int.reduceAdd, Int.reduceEq, Int.reduceLT, Int.reduceLE, arr_pos, arr_neg, C_spec_l1In]
  exact hno
 ·intro h
  simp (contextual := true) (maxSteps := 1000000) (disch := omega) only [↓Sd, ↓So, ↓Sk, ↓den, ↓denA, Sa, Sb, Sc, Se, O1.d, O2.d, O3.d, cmI, arI, envOf, putN, ↓reduceIte, Nat.reduceLT, Nat.reduceSub, Nat.reduceAdd, Int.reduceAdd, Int.reduceEq, Int.reduceLT, Int.reduceLE, arr_pos, arr_neg, ]
  rw [← hK, decide_eq_true]; exact ⟨by omega, h⟩
theorem C_impl_inRange (s : Sy) (st : List Int) (h5 : s.1.length ≤ 5) (hl : st.length ≤ 1048576) (Q : List AV → Prop) : mc.C f_impl_inRange [⟨L V3, s.1⟩, ⟨L TR, s.2⟩, ⟨L I, st⟩] Q = Q [⟨B, decide (inR s.1 st)⟩] := by
 refine Mc.Ends.c (mc.ends F_impl_inRange ?_)
 generalize hK : decide (inR s.1 st) = K
 simp (contextual := true) (maxSteps := 1000000) (disch := omega) only [↓Sd, ↓So, ↓Sk, ↓den, ↓denA, Sa, Sb, Sc, Se, O1.d, O2.d, O3.d, cmI, arI, envOf, putN, ↓reduceIte, Nat.reduceLT, Nat.reduceSub, Nat.reduceAdd, Int.reduceAdd, Int.reduceEq, Int.reduceLT, Int.reduceLE, arr_pos, arr_neg, tr_impl_inRange]
 refine ⟨fun g => ?_, fun g1 => ?_⟩
 ·rw [← hK, decide_eq_false]; exact fun h => g (by rw [h.1])
 refine lp_all (fun i => [⟨L I, st⟩, ⟨L V3, s.1⟩, ⟨I, (s.1.length : Int)⟩, ⟨I, (i : Int)⟩]) (fun i => (s.1.getD i (0, 0, 0)).1 ≤ st.getD i 0 ∧ st.getD i 0 ≤ (s.1.getD i (0, 0, 0)).2.1) s.1.length _ rfl ?_ ?_
 ·intro i hi
  have hno : ¬ ((s.1.getD i (0, 0, 0)).1 ≤ st.getD i 0 ∧ st.getD i 0 ≤ (s.1.getD i (0, 0, 0)).2.1) → false = K := fun h => by rw [← hK, decide_eq_false]; exact fun h1 => h (h1.2 i hi)
  simp (contextual := true) (maxSteps := 1000000) (disch := omega) only [↓Sd, ↓So, ↓Sk, ↓den, ↓denA, Sa, Sb, Sc, Se, O1.d, O2.d, O3.d, cmI, arI, envOf, putN, ↓reduceIte, Nat.reduceLT, Nat.reduceSub, Nat.reduceAdd, Int.reduceAdd, Int.reduceEq, Int.reduceLT, Int.reduceLE, arr_pos, arr_neg, C_impl_in]
  exact hno
 ·intro h
  simp (contextual := true) (maxSteps := 1000000) (disch := omega) only [↓Sd, ↓So, ↓Sk, ↓den, ↓denA, Sa, Sb, Sc, Se, O1.d, O2.d, O3.d, cmI, arI, envOf, putN, ↓reduceIte, Nat.reduceLT, Nat.reduceSub, Nat.reduceAdd, Int.reduceAdd, Int.reduceEq, Int.reduceLT, Int.reduceLE, arr_pos, arr_neg, ]
  rw [← hK, decide_eq_true]; exact ⟨by omega, h⟩
theorem overL_rep {α : Type} {l : List α} {z : α} : overL (List.replicate l.length z) l = l := by
 unfold overL
 simp
theorem C_impl_clone_int (l : List Int) (hl : l.length ≤ 1048576) (Q : List AV → Prop) : mc.C f_impl_clone_int [⟨L I, l⟩] Q = Q [⟨L I, l⟩] := by
 refine Mc.Ends.c (mc.ends F_impl_clone_int ?_)
 simp (contextual := true) (maxSteps := 1000000) (disch := omega) only [↓Sd, ↓So, ↓Sk, ↓den, ↓denA, Sa, Sb, Sc, Se, O1.d, O2.d, O3.d, cmI, arI, envOf, putN, ↓reduceIte, Nat.reduceLT, Nat.reduceSub, Nat.reduceAdd, Int.reduceAdd, Int.reduceEq, Int.reduceLT, Int.reduceLE, arr_pos, arr_neg, tr_impl_clone_int, overL_rep]
 intro h
 exact (List.eq_nil_of_length_eq_zero (by omega)).symm
def upR (r : Ru) (st : List Int) (n : Nat) : List Int := (List.range n).foldl (fun o i => o.set (r.2.1.getD i 0).toNat (evl (r.2.2.getD i []) st)) st
def useM (vs : List Vr) (r : Ru) (st : List Int) : List Int := if evl r.1 st = 0 then [] else if inR vs (upR r st r.2.1.length) then upR r st r.2.1.length else []
theorem upR_next {r : Ru} {st : List Int} {n : Nat} : upR r st (n + 1) = (upR r st n).set (r.2.1.getD n 0).toNat (evl (r.2.2.getD n []) st) := by
 unfold upR; rw [List.range_succ, List.foldl_append]; rfl
theorem upR_len {r : Ru} {st : List Int} : ∀ {n : Nat}, (upR r st n).length = st.length
 | 0 => rfl
 | n + 1 => by rw [upR_next, List.length_set, upR_len]
theorem useM_in {vs : List Vr} {r : Ru} {st : List Int} (h : useM vs r st ≠ []) : inR vs (useM vs r st) := by
 unfold useM at h ⊢
 split
 ·rename_i h1; rw [if_pos h1] at h; exact absurd rfl h
 ·rename_i h1
  rw [if_neg h1] at h
  split
  ·rename_i h2; exact h2
  ·rename_i h2; rw [if_neg h2] at h; exact absurd rfl h
theorem take_next {α : Type} {l : List α} {i : Nat} {d : α} (h : i < l.length) : l.take i ++ [l.getD i d] = l.take (i + 1) := by
 rw [getD_lt h, List.take_append_getElem h]
theorem C_spec_l2Use (s : Sy) (st : List Int) (k : Nat) (h : valid s) (hst : inR s.1 st) (hk : k < s.2.length) (Q : List AV → Prop) : mc.C f_spec_l2Use [⟨L V3, s.1⟩, ⟨L TR, s.2⟩, ⟨L I, st⟩, ⟨I, (k : Int)⟩] Q = Q [⟨L I, useM s.1 (s.2.getD k ([], [], [])) st⟩] := by
 obtain ⟨⟨g0, g1⟩, g2, g3, g4, g5⟩ := h
 have hb := hst.bds g3
 have hl := hst.1
 have hr := g4 _ (getD_mem (d := ([], [], [])) hk)
 refine Mc.Ends.c (mc.ends F_spec_l2Use ?_)
 generalize hK : useM s.1 (s.2.getD k ([], [], [])) st = K
 generalize ht : s.2.getD k ([], [], []) = r at hK hr
 obtain ⟨e1, e2, e3⟩ := hr
 have hf := rOk_few e3
 simp (contextual := true) (maxSteps := 1000000) (disch := omega) only [↓Sd, ↓So, ↓Sk, ↓den, ↓denA, Sa, Sb, Sc, Se, O1.d, O2.d, O3.d, cmI, arI, envOf, putN, ↓reduceIte, Nat.reduceLT, Nat.reduceSub, Nat.reduceAdd, Int.reduceAdd, Int.reduceEq, Int.reduceLT, Int.reduceLE, arr_pos, arr_neg, tr_spec_l2Use, ht, C_spec_l2Last r.1 st s.1.length (by omega) hb (by omega)]
 refine ⟨fun g => by rw [← hK, useM, if_pos g], fun g => ?_⟩
 refine mc.lp_for (List Int) (fun i o => [⟨L I, st⟩, ⟨I, (i : Int)⟩, ⟨L V3, s.1⟩, ⟨L TR, s.2⟩, ⟨L T4, r.1⟩, ⟨L I, r.2.1⟩, ⟨L (L T4), r.2.2⟩, ⟨L I, o⟩]) (fun i o => o = st.take i) st.length 0 [] _ rfl (Nat.zero_le _) rfl ?_ ?_
 ·rintro i o hi rfl
  have h1 : ((st.take i).length : Int) ≤ 5 := by rw [List.length_take]; omega
  simp (contextual := true) (maxSteps := 1000000) (disch := omega) only [↓Sd, ↓So, ↓Sk, ↓den, ↓denA, Sa, Sb, Sc, Se, O1.d, O2.d, O3.d, cmI, arI, envOf, putN, ↓reduceIte, Nat.reduceLT, Nat.reduceSub, Nat.reduceAdd, Int.reduceAdd, Int.reduceEq, Int.reduceLT, Int.reduceLE, arr_pos, arr_neg, ]
  exact take_next hi
 rintro o rfl
 rw [List.take_length]
 simp (contextual := true) (maxSteps := 1000000) (disch := omega) only [↓Sd, ↓So, ↓Sk, ↓den, ↓denA, Sa, Sb, Sc, Se, O1.d, O2.d, O3.d, cmI, arI, envOf, putN, ↓reduceIte, Nat.reduceLT, Nat.reduceSub, Nat.reduceAdd, Int.reduceAdd, Int.reduceEq, Int.reduceLT, Int.reduceLE, arr_pos, arr_neg, ]
 refine mc.lp_for (List Int) (fun i o => [⟨L I, st⟩, ⟨I, (i : Int)⟩, ⟨L V3, s.1⟩, ⟨L TR, s.2⟩, ⟨L T4, r.1⟩, ⟨L I, r.2.1⟩, ⟨L (L T4), r.2.2⟩, ⟨L I, o⟩]) (fun i o => o = upR r st i) r.2.1.length 0 st _ rfl (Nat.zero_le _) rfl ?_ ?_
 ·rintro i o hi rfl
  obtain ⟨e4, e5, e6⟩ := e3 i hi
  have h1 : ((upR r st i).length : Int) = s.1.length := by rw [upR_len]; omega
  simp (contextual := true) (maxSteps := 1000000) (disch := omega) only [↓Sd, ↓So, ↓Sk, ↓den, ↓denA, Sa, Sb, Sc, Se, O1.d, O2.d, O3.d, cmI, arI, envOf, putN, ↓reduceIte, Nat.reduceLT, Nat.reduceSub, Nat.reduceAdd, Int.reduceAdd, Int.reduceEq, Int.reduceLT, Int.reduceLE, arr_pos, arr_neg, C_spec_l2Last (r.2.2.getD i []) st s.1.length (by omega) hb (by omega)]
  exact upR_next.symm
 rintro o rfl
 simp (contextual := true) (maxSteps := 1000000) (disch := omega) only [↓Sd, ↓So, ↓Sk, ↓den, ↓denA, Sa, Sb, Sc, Se, O1.d, O2.d, O3.d, cmI, arI, envOf, putN, ↓reduceIte, Nat.reduceLT, Nat.reduceSub, Nat.reduceAdd, Int.reduceAdd, Int.reduceEq, Int.reduceLT, Int.reduceLE, arr_pos, arr_neg, C_spec_l2In s (upR r st r.2.1.length) g1 (by rw [upR_len]; omega)]
 rw [← hK, useM, if_neg g]
 exact ⟨fun h => by rw [if_neg h], fun h => by rw [if_pos h]⟩
theorem C_impl_use (s : Sy) (st : List Int) (k : Nat) (h : valid s) (hst : inR s.1 st) (hk : k < s.2.length) (Q : List AV → Prop) : mc.C f_impl_use [⟨L V3, s.1⟩, ⟨L TR, s.2⟩, ⟨L I, st⟩, ⟨I, (k : Int)⟩] Q = Q [⟨L I, useM s.1 (s.2.getD k ([], [], [])) st⟩, ⟨B, decide (useM s.1 (s.2.getD k ([], [], [])) st ≠ [])⟩] := by
 obtain ⟨⟨g0, g1⟩, g2, g3, g4, g5⟩ := h
 have hb := hst.bds g3
 have hl := hst.1
 have hr := g4 _ (getD_mem (d := ([], [], [])) hk)
 refine Mc.Ends.c (mc.ends F_impl_use ?_)
 generalize hK : useM s.1 (s.2.getD k ([], [], [])) st = K
 generalize ht : s.2.getD k ([], [], []) = r at hK hr
 obtain ⟨e1, e2, e3⟩ := hr
 have hf := rOk_few e3
 simp (contextual := true) (maxSteps := 1000000) (disch := omega) only [↓Sd, ↓So, ↓Sk, ↓den, ↓denA, Sa, Sb, Sc, Se, O1.d, O2.d, O3.d, cmI, arI, envOf, putN, ↓reduceIte, Nat.reduceLT, Nat.reduceSub, Nat.reduceAdd, Int.reduceAdd, Int.reduceEq, Int.reduceLT, Int.reduceLE, arr_pos, arr_neg, tr_impl_use, ht, C_impl_eval r.1 st s.1.length (by omega) hb (by omega), C_impl_clone_int st (by omega)]
 refine ⟨fun g => by rw [← hK, useM, if_pos g]; simp, fun g => ?_⟩
 refine mc.lp_for (List Int) (fun i o => [⟨L I, st⟩, ⟨L I, r.2.1⟩, ⟨I, (r.2.1.length : Int)⟩, ⟨I, (i : Int)⟩, ⟨L V3, s.1⟩, ⟨L TR, s.2⟩, ⟨L T4, r.1⟩, ⟨L I, r.2.1⟩, ⟨L (L T4), r.2.2⟩, ⟨L I, o⟩]) (fun i o => o = upR r st i) r.2.1.length 0 st _ rfl (Nat.zero_le _) rfl ?_ ?_
 ·rintro i o hi rfl
  obtain ⟨e4, e5, e6⟩ := e3 i hi
  have h1 : ((upR r st i).length : Int) = s.1.length := by rw [upR_len]; omega
  simp (contextual := true) (maxSteps := 1000000) (disch := omega) only [↓Sd, ↓So, ↓Sk, ↓den, ↓denA, Sa, Sb, Sc, Se, O1.d, O2.d, O3.d, cmI, arI, envOf, putN, ↓reduceIte, Nat.reduceLT, Nat.reduceSub, Nat.reduceAdd, Int.reduceAdd, Int.reduceEq, Int.reduceLT, Int.reduceLE, arr_pos, arr_neg, C_impl_eval (r.2.2.getD i []) st s.1.length (by omega) hb (by omega)]
  exact upR_next.symm
 rintro o rfl
 simp (contextual := true) (maxSteps := 1000000) (disch := omega) only [↓Sd, ↓So, ↓Sk, ↓den, ↓denA, Sa, Sb, Sc, Se, O1.d, O2.d, O3.d, cmI, arI, envOf, putN, ↓reduceIte, Nat.reduceLT, Nat.reduceSub, Nat.reduceAdd, Int.reduceAdd, Int.reduceEq, Int.reduceLT, Int.reduceLE, arr_pos, arr_neg, C_impl_inRange s (upR r st r.2.1.length) g1 (by rw [upR_len]; omega)]
 rw [← hK, useM, if_neg g]
 refine ⟨fun h => by rw [if_neg h]; simp, fun h => ?_⟩
 rw [if_pos h]
 have h1 : (upR r st r.2.1.length).length = st.length := upR_len
 refine ⟨rfl, ?_⟩
 rw [eq_comm, decide_eq_true]
 intro h2
 rw [h2] at h1
 simp at h1
 omega
def cmpL : List Int → List Int → Int
 | [], [] => 0
 | [], _ :: _ => -1
 | _ :: _, [] => 1
 | a :: l, b :: m => if a < b then -1 else if a > b then 1 else cmpL l m
theorem cmpL_drop {l m : List Int} {i : Nat} (h1 : i < l.length) (h2 : i < m.length) : cmpL (l.drop i) (m.drop i) = if l.getD i 0 < m.getD i 0 then -1 else if l.getD i 0 > m.getD i 0 then 1 else cmpL (l.drop (i + 1)) (m.drop (i + 1)) := by
 rw [drop_cons (d := 0) h1, drop_cons (d := 0) h2]; rfl
def putM (x : List Int) : List (List Int) → List (List Int)
 | [] => [x]
 | y :: l => if y = x then y :: l else if cmpL x y < 0 then x :: y :: l else y :: putM x l
theorem putM_len {x : List Int} : ∀ {l : List (List Int)}, (putM x l).length ≤ l.length + 1
 | [] => by simp [putM]
 | y :: l => by
  simp only [putM]
  split
  ·simp
  ·split
   ·simp
   ·simp only [List.length_cons]; have := @putM_len x l; omega
theorem putM_mem {x z : List Int} : ∀ {l : List (List Int)}, z ∈ putM x l → z = x ∨ z ∈ l
 | [], h => .inl (by simpa [putM] using h)
 | y :: l, h => by
  simp only [putM] at h
  split at h
  ·exact .inr h
  ·split at h
   ·exact List.mem_cons.1 h
   ·rcases List.mem_cons.1 h with rfl | h
    ·exact .inr (List.mem_cons_self ..)
    ·rcases putM_mem h with h | h
     ·exact .inl h
     ·exact .inr (List.mem_cons_of_mem _ h)
end Go.Proofs.YthapopegchnhlaaGreat
namespace Go.Proofs.YthapopegchnhlaaGreat
open Go Go.Sm Go.Sm.Q
set_option linter.unusedSimpArgs false
set_option linter.unusedVariables false
theorem C_spec_l2Same (a b : List Int) (ha : a.length ≤ 1048576) (hb : b.length ≤ 1048576) (Q : List AV → Prop) : mc.C f_spec_l2Same [⟨L I, a⟩, ⟨L I, b⟩] Q = Q [⟨B, decide (a = b)⟩] := by
 refine Mc.Ends.c (mc.ends F_spec_l2Same ?_)
 generalize hK : decide (a = b) = K
 simp (contextual := true) (maxSteps := 1000000) (disch := omega) only [↓Sd, ↓So, ↓Sk, ↓den, ↓denA, Sa, Sb, Sc, Se, O1.d, O2.d, O3.d, cmI, arI, envOf, putN, ↓reduceIte, Nat.reduceLT, Nat.reduceSub, Nat.reduceAdd, Int.reduceAdd, Int.reduceEq, Int.reduceLT, Int.reduceLE, arr_pos, arr_neg, tr_spec_l2Same]
 refine ⟨fun g => by rw [← hK, decide_eq_false]; exact fun h => g (by rw [h]), fun g => ?_⟩
 refine lp_all (fun i => [⟨L I, a⟩, ⟨L I, b⟩, ⟨I, (i : Int)⟩]) (fun i => a.getD i 0 = b.getD i 0) a.length _ rfl ?_ ?_
 ·intro i hi
  have hno : ¬ a.getD i 0 = b.getD i 0 → false = K := fun h => by rw [← hK, decide_eq_false]; exact fun h1 => h (by rw [h1])
  simp (contextual := true) (maxSteps := 1000000) (disch := omega) only [↓Sd, ↓So, ↓Sk, ↓den, ↓denA, Sa, Sb, Sc, Se, O1.d, O2.d, O3.d, cmI, arI, envOf, putN, ↓reduceIte, Nat.reduceLT, Nat.reduceSub, Nat.reduceAdd, Int.reduceAdd, Int.reduceEq, Int.reduceLT, Int.reduceLE, arr_pos, arr_neg, ]
  exact hno
 ·intro h
  simp (contextual := true) (maxSteps := 1000000) (disch := omega) only [↓Sd, ↓So, ↓Sk, ↓den, ↓denA, Sa, Sb, Sc, Se, O1.d, O2.d, O3.d, cmI, arI, envOf, putN, ↓reduceIte, Nat.reduceLT, Nat.reduceSub, Nat.reduceAdd, Int.reduceAdd, Int.reduceEq, Int.reduceLT, Int.reduceLE, arr_pos, arr_neg, ]
  rw [← hK, decide_eq_true]
  refine List.ext_getElem (by omega) fun i h1 h2 => ?_
  have := h i h1
  rwa [getD_lt h1, getD_lt h2] at this
theorem C_spec_l2Less (a b : List Int) (ha : a.length ≤ 1048576) (hb : b.length ≤ 1048576) (Q : List AV → Prop) : mc.C f_spec_l2Less [⟨L I, a⟩, ⟨L I, b⟩] Q = Q [⟨B, decide (cmpL a b < 0)⟩] := by
 refine Mc.Ends.c (mc.ends F_spec_l2Less ?_)
 generalize hK : decide (cmpL a b < 0) = K
 simp (contextual := true) (maxSteps := 1000000) (disch := omega) only [↓Sd, ↓So, ↓Sk, ↓den, ↓denA, Sa, Sb, Sc, Se, O1.d, O2.d, O3.d, cmI, arI, envOf, putN, ↓reduceIte, Nat.reduceLT, Nat.reduceSub, Nat.reduceAdd, Int.reduceAdd, Int.reduceEq, Int.reduceLT, Int.reduceLE, arr_pos, arr_neg, tr_spec_l2Less]
 refine mc.wp_join (fun us => us = [⟨L I, a⟩, ⟨L I, b⟩] ∧ K = decide (a.length < b.length)) ?_ ?_
 ·simp (contextual := true) (maxSteps := 1000000) (disch := omega) only [↓Sd, ↓So, ↓Sk, ↓den, ↓denA, Sa, Sb, Sc, Se, O1.d, O2.d, O3.d, cmI, arI, envOf, putN, ↓reduceIte, Nat.reduceLT, Nat.reduceSub, Nat.reduceAdd, Int.reduceAdd, Int.reduceEq, Int.reduceLT, Int.reduceLE, arr_pos, arr_neg, ]
  refine mc.lp_for Unit (fun i _ => [⟨L I, a⟩, ⟨L I, b⟩, ⟨I, (i : Int)⟩]) (fun i _ => i ≤ b.length ∧ cmpL (a.drop i) (b.drop i) = cmpL a b) a.length 0 () _ rfl (Nat.zero_le _) ⟨Nat.zero_le _, rfl⟩ ?_ ?_
  ·rintro i - hi ⟨h1, h2⟩
   simp (contextual := true) (maxSteps := 1000000) (disch := omega) only [↓Sd, ↓So, ↓Sk, ↓den, ↓denA, Sa, Sb, Sc, Se, O1.d, O2.d, O3.d, cmI, arI, envOf, putN, ↓reduceIte, Nat.reduceLT, Nat.reduceSub, Nat.reduceAdd, Int.reduceAdd, Int.reduceEq, Int.reduceLT, Int.reduceLE, arr_pos, arr_neg, ]
   refine ⟨fun h => ?_, fun h => ?_⟩
   ·have h3 : i < b.length := by omega
    rw [cmpL_drop hi h3] at h2
    refine ⟨fun h4 => ?_, fun h4 => ⟨h3, ?_⟩⟩
    ·rw [← hK, ← h2]
     by_cases h5 : a.getD i 0 < b.getD i 0
     ·rw [if_pos h5, decide_eq_true h5]; rfl
     ·rw [if_neg h5, if_pos (by omega), decide_eq_false h5]; rfl
    ·rw [if_neg (by omega), if_neg (by omega)] at h2; exact h2
   ·have h3 : i = b.length := by omega
    subst h3
    rw [List.drop_length, drop_cons (d := 0) hi] at h2
    rw [← hK, ← h2, decide_eq_false (by simp [cmpL]), decide_eq_false (by omega)]
  ·rintro - ⟨h1, h2⟩
   rw [List.drop_length] at h2
   simp (contextual := true) (maxSteps := 1000000) (disch := omega) only [↓Sd, ↓So, ↓Sk, ↓den, ↓denA, Sa, Sb, Sc, Se, O1.d, O2.d, O3.d, cmI, arI, envOf, putN, ↓reduceIte, Nat.reduceLT, Nat.reduceSub, Nat.reduceAdd, Int.reduceAdd, Int.reduceEq, Int.reduceLT, Int.reduceLE, arr_pos, arr_neg, ]
   rw [← hK, ← h2]
   by_cases h3 : a.length < b.length
   ·rw [decide_eq_true h3, drop_cons (d := 0) h3]; rfl
   ·rw [decide_eq_false h3, List.drop_eq_nil_of_le (by omega)]; rfl
 ·rintro _ ⟨rfl, h⟩
  simp (contextual := true) (maxSteps := 1000000) (disch := omega) only [↓Sd, ↓So, ↓Sk, ↓den, ↓denA, Sa, Sb, Sc, Se, O1.d, O2.d, O3.d, cmI, arI, envOf, putN, ↓reduceIte, Nat.reduceLT, Nat.reduceSub, Nat.reduceAdd, Int.reduceAdd, Int.reduceEq, Int.reduceLT, Int.reduceLE, arr_pos, arr_neg, ]
  rw [h]
  exact decide_eq_decide.2 Int.ofNat_lt
theorem C_spec_l2Put (l : List (List Int)) (x : List Int) (hl : l.length ≤ 1048576) (hx : x.length ≤ 1048576) (hs : ∀ y ∈ l, y.length ≤ 1048576) (Q : List AV → Prop) : mc.C f_spec_l2Put [⟨L (L I), l⟩, ⟨L I, x⟩] Q = Q [⟨L (L I), putM x l⟩] := by
 refine Mc.Ends.c (mc.ends F_spec_l2Put ?_)
 generalize hK : putM x l = K
 simp (contextual := true) (maxSteps := 1000000) (disch := omega) only [↓Sd, ↓So, ↓Sk, ↓den, ↓denA, Sa, Sb, Sc, Se, O1.d, O2.d, O3.d, cmI, arI, envOf, putN, ↓reduceIte, Nat.reduceLT, Nat.reduceSub, Nat.reduceAdd, Int.reduceAdd, Int.reduceEq, Int.reduceLT, Int.reduceLE, arr_pos, arr_neg, tr_spec_l2Put]
 refine mc.lp_for (Bool × List (List Int)) (fun i s => [⟨L (L I), l⟩, ⟨L I, x⟩, ⟨B, s.1⟩, ⟨I, (i : Int)⟩, ⟨L (L I), s.2⟩]) (fun i s => s.2.length ≤ i + s.1.toNat ∧ (s.1 = true → s.2 ++ l.drop i = K) ∧ (s.1 = false → s.2 ++ putM x (l.drop i) = K)) l.length 0 (false, []) _ rfl (Nat.zero_le _) ⟨by simp, by simp, fun _ => hK⟩ ?_ ?_
 ·rintro i ⟨d, o⟩ hi ⟨h1, h2, h3⟩
  have hy := hs _ (getD_mem (d := []) hi)
  rw [drop_cons (d := []) hi] at h2 h3
  obtain ⟨y, hg⟩ : ∃ y, l.getD i [] = y := ⟨_, rfl⟩
  rw [hg] at h2 h3 hy
  simp only at h1 h2 h3
  have h4 : (o.length : Int) ≤ 1048577 := by cases d <;> simp at h1 <;> omega
  cases d with
  | true =>
   have h2 := h2 rfl
   simp (contextual := true) (maxSteps := 1000000) (disch := omega) only [↓Sd, ↓So, ↓Sk, ↓den, ↓denA, Sa, Sb, Sc, Se, O1.d, O2.d, O3.d, cmI, arI, envOf, putN, ↓reduceIte, Nat.reduceLT, Nat.reduceSub, Nat.reduceAdd, Int.reduceAdd, Int.reduceEq, Int.reduceLT, Int.reduceLE, arr_pos, arr_neg, ↓wpJoin, hg]
   exact ⟨(true, o ++ [y]), ⟨rfl, rfl⟩, by simp at h1 ⊢; omega, fun _ => by rw [← h2]; simp, fun h => by cases h⟩
  | false =>
   have h3 := h3 rfl
   simp only [putM] at h3
   simp (contextual := true) (maxSteps := 1000000) (disch := omega) only [↓Sd, ↓So, ↓Sk, ↓den, ↓denA, Sa, Sb, Sc, Se, O1.d, O2.d, O3.d, cmI, arI, envOf, putN, ↓reduceIte, Nat.reduceLT, Nat.reduceSub, Nat.reduceAdd, Int.reduceAdd, Int.reduceEq, Int.reduceLT, Int.reduceLE, arr_pos, arr_neg, ↓wpJoin, hg, C_spec_l2Same y x hy hx, C_spec_l2Less x y hx hy]
   refine ⟨fun h => ?_, fun h => ⟨fun h5 => ?_, fun h5 => ?_⟩⟩
   ·rw [if_pos h] at h3
    exact ⟨(true, o ++ [x]), ⟨rfl, rfl⟩, by simp at h1 ⊢; omega, fun _ => by rw [← h3, ← h]; simp, fun h => by cases h⟩
   ·rw [if_neg h, if_pos h5] at h3
    exact ⟨(true, o ++ [x] ++ [y]), ⟨rfl, rfl⟩, by simp at h1 ⊢; omega, fun _ => by rw [← h3]; simp, fun h => by cases h⟩
   ·rw [if_neg h, if_neg h5] at h3
    exact ⟨(false, o ++ [y]), ⟨rfl, rfl⟩, by simp at h1 ⊢; omega, fun h => (nomatch h), fun _ => by rw [← h3]; simp⟩
 ·rintro ⟨d, o⟩ ⟨h1, h2, h3⟩
  simp only [List.drop_length] at h1 h2 h3
  have h4 : (o.length : Int) ≤ 1048577 := by cases d <;> simp at h1 <;> omega
  cases d with
  | true => simp (contextual := true) (maxSteps := 1000000) (disch := omega) only [↓Sd, ↓So, ↓Sk, ↓den, ↓denA, Sa, Sb, Sc, Se, O1.d, O2.d, O3.d, cmI, arI, envOf, putN, ↓reduceIte, Nat.reduceLT, Nat.reduceSub, Nat.reduceAdd, Int.reduceAdd, Int.reduceEq, Int.reduceLT, Int.reduceLE, arr_pos, arr_neg, ↓wpJoin, ]; simpa using h2 rfl
  | false => simp (contextual := true) (maxSteps := 1000000) (disch := omega) only [↓Sd, ↓So, ↓Sk, ↓den, ↓denA, Sa, Sb, Sc, Se, O1.d, O2.d, O3.d, cmI, arI, envOf, putN, ↓reduceIte, Nat.reduceLT, Nat.reduceSub, Nat.reduceAdd, Int.reduceAdd, Int.reduceEq, Int.reduceLT, Int.reduceLE, arr_pos, arr_neg, ↓wpJoin, ]; simpa [putM] using h3 rfl
def nxtN (s : Sy) (st : List Int) : Nat → List (List Int)
 | 0 => []
 | k + 1 => if useM s.1 (s.2.getD k ([], [], [])) st = [] then nxtN s st k else putM (useM s.1 (s.2.getD k ([], [], [])) st) (nxtN s st k)
def nxt (s : Sy) (st : List Int) : List (List Int) := nxtN s st s.2.length
theorem nxtN_len {s : Sy} {st : List Int} : ∀ {k : Nat}, (nxtN s st k).length ≤ k
 | 0 => Nat.le_refl _
 | k + 1 => by
  have := @nxtN_len s st k
  simp only [nxtN]
  split
  ·omega
  ·exact Nat.le_trans putM_len (by omega)
theorem nxtN_in {s : Sy} {st : List Int} : ∀ {k : Nat}, ∀ x ∈ nxtN s st k, inR s.1 x
 | 0, x, h => by simp [nxtN] at h
 | k + 1, x, h => by
  simp only [nxtN] at h
  split at h
  ·exact nxtN_in x h
  ·rename_i h1
   rcases putM_mem h with rfl | h
   ·exact useM_in h1
   ·exact nxtN_in x h
theorem C_spec_l2Next (s : Sy) (st : List Int) (h : valid s) (hst : inR s.1 st) (Q : List AV → Prop) : mc.C f_spec_l2Next [⟨L V3, s.1⟩, ⟨L TR, s.2⟩, ⟨L I, st⟩] Q = Q [⟨L (L I), nxt s st⟩] := by
 have h8 := h.2.1
 have h5 := h.1.2
 refine Mc.Ends.c (mc.ends F_spec_l2Next ?_)
 simp (contextual := true) (maxSteps := 1000000) (disch := omega) only [↓Sd, ↓So, ↓Sk, ↓den, ↓denA, Sa, Sb, Sc, Se, O1.d, O2.d, O3.d, cmI, arI, envOf, putN, ↓reduceIte, Nat.reduceLT, Nat.reduceSub, Nat.reduceAdd, Int.reduceAdd, Int.reduceEq, Int.reduceLT, Int.reduceLE, arr_pos, arr_neg, tr_spec_l2Next]
 refine mc.lp_for (List (List Int)) (fun i o => [⟨L I, st⟩, ⟨I, (i : Int)⟩, ⟨L V3, s.1⟩, ⟨L TR, s.2⟩, ⟨L (L I), o⟩]) (fun i o => o = nxtN s st i) s.2.length 0 [] _ rfl (Nat.zero_le _) rfl ?_ ?_
 ·rintro i o hi rfl
  have h1 := @nxtN_len s st i
  have hin : ∀ x ∈ nxtN s st i, x.length ≤ 1048576 := fun x hx => by have := (nxtN_in x hx).1; omega
  have hu : (useM s.1 (s.2.getD i ([], [], [])) st).length ≤ 1048576 := by
   by_cases h0 : useM s.1 (s.2.getD i ([], [], [])) st = []
   ·rw [h0]; simp
   ·have := (useM_in h0).1; omega
  simp (contextual := true) (maxSteps := 1000000) (disch := omega) only [↓Sd, ↓So, ↓Sk, ↓den, ↓denA, Sa, Sb, Sc, Se, O1.d, O2.d, O3.d, cmI, arI, envOf, putN, ↓reduceIte, Nat.reduceLT, Nat.reduceSub, Nat.reduceAdd, Int.reduceAdd, Int.reduceEq, Int.reduceLT, Int.reduceLE, arr_pos, arr_neg, ↓wpJoin, C_spec_l2Use s st i h hst hi, C_spec_l2Put _ _ (Nat.le_trans h1 (by omega)) hu hin]
  simp only [nxtN]
  refine ⟨fun g => ?_, fun g => ?_⟩
  ·rw [if_neg (fun h0 => by rw [h0] at g; simp at g)]
  ·rw [if_pos (List.eq_nil_of_length_eq_zero (by omega))]
 ·rintro o rfl
  simp (contextual := true) (maxSteps := 1000000) (disch := omega) only [↓Sd, ↓So, ↓Sk, ↓den, ↓denA, Sa, Sb, Sc, Se, O1.d, O2.d, O3.d, cmI, arI, envOf, putN, ↓reduceIte, Nat.reduceLT, Nat.reduceSub, Nat.reduceAdd, Int.reduceAdd, Int.reduceEq, Int.reduceLT, Int.reduceLE, arr_pos, arr_neg, ]
  rfl
def fst0 (l : List Vr) : List Int := l.map (·.2.2)
theorem fst0_next {l : List Vr} {i : Nat} (hi : i < l.length) : fst0 (l.take i) ++ [(l.getD i (0, 0, 0)).2.2] = fst0 (l.take (i + 1)) := by
 rw [← take_next (d := (0, 0, 0)) hi]; simp [fst0]
theorem C_impl_first (s : Sy) (h : s.1.length ≤ 5) (Q : List AV → Prop) : mc.C f_impl_first [⟨L V3, s.1⟩, ⟨L TR, s.2⟩] Q = Q [⟨L I, fst0 s.1⟩] := by
 refine Mc.Ends.c (mc.ends F_impl_first ?_)
 simp (contextual := true) (maxSteps := 1000000) (disch := omega) only [↓Sd, ↓So, ↓Sk, ↓den, ↓denA, Sa, Sb, Sc, Se, O1.d, O2.d, O3.d, cmI, arI, envOf, putN, ↓reduceIte, Nat.reduceLT, Nat.reduceSub, Nat.reduceAdd, Int.reduceAdd, Int.reduceEq, Int.reduceLT, Int.reduceLE, arr_pos, arr_neg, tr_impl_first]
 refine mc.lp_for (List Int) (fun i o => [⟨L V3, s.1⟩, ⟨I, (s.1.length : Int)⟩, ⟨I, (i : Int)⟩, ⟨L I, o⟩]) (fun i o => o = fst0 (s.1.take i)) s.1.length 0 [] _ rfl (Nat.zero_le _) rfl ?_ ?_
 ·rintro i o hi rfl
  have h1 : ((fst0 (s.1.take i)).length : Int) ≤ 5 := by simp [fst0]; omega
  simp (contextual := true) (maxSteps := 1000000) (disch := omega) only [↓Sd, ↓So, ↓Sk, ↓den, ↓denA, Sa, Sb, Sc, Se, O1.d, O2.d, O3.d, cmI, arI, envOf, putN, ↓reduceIte, Nat.reduceLT, Nat.reduceSub, Nat.reduceAdd, Int.reduceAdd, Int.reduceEq, Int.reduceLT, Int.reduceLE, arr_pos, arr_neg, ]
  exact fst0_next hi
 ·rintro o rfl
  rw [List.take_length]
  have h1 : (fst0 s.1).length ≤ 5 := by simp [fst0]; omega
  simp (contextual := true) (maxSteps := 1000000) (disch := omega) only [↓Sd, ↓So, ↓Sk, ↓den, ↓denA, Sa, Sb, Sc, Se, O1.d, O2.d, O3.d, cmI, arI, envOf, putN, ↓reduceIte, Nat.reduceLT, Nat.reduceSub, Nat.reduceAdd, Int.reduceAdd, Int.reduceEq, Int.reduceLT, Int.reduceLE, arr_pos, arr_neg, C_impl_clone_int (fst0 s.1) (by omega)]
theorem C_spec_FirstState (s : Sy) (hs : FewSy s) (hv : valid s) (Q : List AV → Prop) : mc.C f_spec_FirstState [⟨L V3, s.1⟩, ⟨L TR, s.2⟩] Q = Q [⟨L I, fst0 s.1⟩] := by
 have h := hv.1.2
 refine Mc.Ends.c (mc.ends F_spec_FirstState ?_)
 simp (contextual := true) (maxSteps := 1000000) (disch := omega) only [↓Sd, ↓So, ↓Sk, ↓den, ↓denA, Sa, Sb, Sc, Se, O1.d, O2.d, O3.d, cmI, arI, envOf, putN, ↓reduceIte, Nat.reduceLT, Nat.reduceSub, Nat.reduceAdd, Int.reduceAdd, Int.reduceEq, Int.reduceLT, Int.reduceLE, arr_pos, arr_neg, tr_spec_FirstState]
 refine mc.wp_join (fun us => us = [⟨L I, fst0 s.1⟩]) ?_ (by rintro _ rfl; simp (contextual := true) (maxSteps := 1000000) (disch := omega) only [↓Sd, ↓So, ↓Sk, ↓den, ↓denA, Sa, Sb, Sc, Se, O1.d, O2.d, O3.d, cmI, arI, envOf, putN, ↓reduceIte, Nat.reduceLT, Nat.reduceSub, Nat.reduceAdd, Int.reduceAdd, Int.reduceEq, Int.reduceLT, Int.reduceLE, arr_pos, arr_neg, ])
 simp (contextual := true) (maxSteps := 1000000) (disch := omega) only [↓Sd, ↓So, ↓Sk, ↓den, ↓denA, Sa, Sb, Sc, Se, O1.d, O2.d, O3.d, cmI, arI, envOf, putN, ↓reduceIte, Nat.reduceLT, Nat.reduceSub, Nat.reduceAdd, Int.reduceAdd, Int.reduceEq, Int.reduceLT, Int.reduceLE, arr_pos, arr_neg, ]
 refine mc.lp_for (List Int) (fun i o => [⟨I, (i : Int)⟩, ⟨L V3, s.1⟩, ⟨L TR, s.2⟩, ⟨L I, o⟩]) (fun i o => o = fst0 (s.1.take i)) s.1.length 0 [] _ rfl (Nat.zero_le _) rfl ?_ ?_
 ·rintro i o hi rfl
  have h1 : ((fst0 (s.1.take i)).length : Int) ≤ 5 := by simp [fst0]; omega
  simp (contextual := true) (maxSteps := 1000000) (disch := omega) only [↓Sd, ↓So, ↓Sk, ↓den, ↓denA, Sa, Sb, Sc, Se, O1.d, O2.d, O3.d, cmI, arI, envOf, putN, ↓reduceIte, Nat.reduceLT, Nat.reduceSub, Nat.reduceAdd, Int.reduceAdd, Int.reduceEq, Int.reduceLT, Int.reduceLE, arr_pos, arr_neg, C_spec_SystemValid s hs, hv]
  exact fst0_next hi
 ·rintro o rfl
  simp (contextual := true) (maxSteps := 1000000) (disch := omega) only [↓Sd, ↓So, ↓Sk, ↓den, ↓denA, Sa, Sb, Sc, Se, O1.d, O2.d, O3.d, cmI, arI, envOf, putN, ↓reduceIte, Nat.reduceLT, Nat.reduceSub, Nat.reduceAdd, Int.reduceAdd, Int.reduceEq, Int.reduceLT, Int.reduceLE, arr_pos, arr_neg, ]
  rw [List.take_length]
def numN (l : List Vr) (st : List Int) : Nat → Int
 | 0 => 0
 | i + 1 => numN l st i * wd (l.getD i (0, 0, 0)) + st.getD i 0 - (l.getD i (0, 0, 0)).1
def num (l : List Vr) (st : List Int) : Int := numN l st l.length
def dg : List Vr → Int → Int × List Int
 | [], n => (n, [])
 | v :: l, n => ((dg l n).1 / wd v, (v.1 + (dg l n).1 % wd v) :: (dg l n).2)
def stAt (l : List Vr) (n : Int) : List Int := (dg l n).2
def tab {α : Type} (f : Nat → α) (n : Nat) : List α := (List.range n).map f
theorem tab_len {α : Type} {f : Nat → α} {n : Nat} : (tab f n).length = n := by simp [tab]
theorem tab_next {α : Type} {f : Nat → α} {n : Nat} : tab f n ++ [f n] = tab f (n + 1) := by simp [tab, List.range_succ]
theorem tab_get {α : Type} {f : Nat → α} {n i : Nat} {d : α} (h : i < n) : (tab f n).getD i d = f i := by simp [tab, h]
def szn (l : List Vr) : Nat := (sz l).toNat
def stN (s : Sy) (n : Nat) : List Int := stAt s.1 n
def stepR (s : Sy) (n : Nat) : List Int := (nxt s (stN s n)).map (num s.1)
def steps (s : Sy) : List (List Int) := tab (stepR s) (szn s.1)
theorem nxt_len {s : Sy} {st : List Int} (h : valid s) : (nxt s st).length ≤ 8 := Nat.le_trans nxtN_len h.2.1
theorem nxt_in {s : Sy} {st : List Int} : ∀ x ∈ nxt s st, inR s.1 x := nxtN_in
def holdsN (s : Sy) (l : List Tm) (n : Nat) : Bool := evl l (stN s n) == 1
def upTo (p : Nat → Bool) : Nat → List Int
 | 0 => []
 | n + 1 => if p n = true then upTo p n ++ [(n : Int)] else upTo p n
theorem upTo_s {p : Nat → Bool} {n : Nat} (h : p n = true) : upTo p (n + 1) = upTo p n ++ [(n : Int)] := by rw [upTo, if_pos h]
theorem upTo_n {p : Nat → Bool} {n : Nat} (h : ¬ p n = true) : upTo p (n + 1) = upTo p n := by rw [upTo, if_neg h]
theorem upTo_len {p : Nat → Bool} : ∀ {n : Nat}, (upTo p n).length ≤ n
 | 0 => Nat.le_refl _
 | n + 1 => by
  have := @upTo_len p n
  simp only [upTo]
  split
  ·simp; omega
  ·omega
theorem upTo_mem {p : Nat → Bool} {x : Int} : ∀ {n : Nat}, x ∈ upTo p n ↔ ∃ k, k < n ∧ x = (k : Int) ∧ p k = true
 | 0 => by simp [upTo]
 | n + 1 => by
  have ih := @upTo_mem p x n
  simp only [upTo]
  constructor
  ·intro h
   split at h
   ·rename_i hp
    rcases List.mem_append.1 h with h | h
    ·obtain ⟨k, h1, h2⟩ := ih.1 h; exact ⟨k, by omega, h2⟩
    ·exact ⟨n, by omega, by simpa using h, hp⟩
   ·obtain ⟨k, h1, h2⟩ := ih.1 h; exact ⟨k, by omega, h2⟩
  ·rintro ⟨k, h1, h2, h3⟩
   rcases Nat.lt_succ_iff_lt_or_eq.1 h1 with h4 | rfl
   ·have h5 := ih.2 ⟨k, h4, h2, h3⟩
    split
    ·exact List.mem_append_left _ h5
    ·exact h5
   ·rw [if_pos h3, h2]; simp
def bn (n : Int) : Int := if n ≤ 1 then 0 else if n ≤ 2 then 1 else if n ≤ 4 then 2 else if n ≤ 8 then 3 else if n ≤ 16 then 4 else 5
def bw (l : List Vr) (i : Nat) : Int := bn (wd (l.getD i (0, 0, 0)))
noncomputable def dB (p : Prop) : Bool := @decide p (Classical.propDecidable p)
theorem dB_iff {p : Prop} : dB p = true ↔ p := @decide_eq_true_iff p (Classical.propDecidable p)
theorem dB_t {p : Prop} (h : p) : dB p = true := dB_iff.2 h
theorem dB_f {p : Prop} (h : ¬ p) : dB p = false := by cases h1 : dB p with | false => rfl | true => exact absurd (dB_iff.1 h1) h
theorem dB_congr {p q : Prop} (h : p ↔ q) : dB p = dB q := by rw [propext h]
theorem dB_eq {p : Prop} [Decidable p] : dB p = decide p := by by_cases h : p <;> simp [h, dB]
theorem tab_congr {α : Type} {f g : Nat → α} {n : Nat} (h : ∀ k, k < n → f k = g k) : tab f n = tab g n := by
 unfold tab
 exact List.map_congr_left fun k hk => h k (List.mem_range.1 hk)
theorem tab_set' {α : Type} {f : Nat → α} {n j : Nat} {x : α} : (tab f n).set j x = tab (fun k => if k = j then x else f k) n := by
 apply List.ext_getElem
 ·simp [tab]
 ·intro i h1 h2
  simp only [tab, List.length_set, List.length_map, List.length_range] at h1 h2
  rw [List.getElem_set]
  simp only [tab, List.getElem_map, List.getElem_range]
  by_cases h : j = i
  ·rw [if_pos h, if_pos h.symm]
  ·rw [if_neg h, if_neg (fun e => h e.symm)]
theorem rep_tab {α : Type} {z : α} {n : Nat} : List.replicate n z = tab (fun _ => z) n := by
 apply List.ext_getElem <;> simp [tab]
def behind (T : List (List Int)) (p : Nat → Bool) (n : Nat) (k : Nat) : Prop := ∃ a, a < n ∧ p a = true ∧ (k : Int) ∈ T.getD a []
inductive Rch (T : List (List Int)) (F : List Int) : Nat → Prop
 | base {k : Nat} : (k : Int) ∈ F → Rch T F k
 | step {a k : Nat} : Rch T F a → (k : Int) ∈ T.getD a [] → Rch T F k
def Tbl (T : List (List Int)) (n : Nat) : Prop := T.length = n ∧ ∀ r ∈ T, r.length ≤ 1048576 ∧ ∀ x ∈ r, 0 ≤ x ∧ x < n
theorem Tbl.row {T : List (List Int)} {n i : Nat} (h : Tbl T n) : ∀ x ∈ T.getD i [], 0 ≤ x ∧ x < n := by
 intro x hx
 by_cases hi : i < T.length
 ·exact (h.2 _ (getD_mem hi)).2 x hx
 ·rw [List.getD_eq_getElem?_getD, List.getElem?_eq_none (by omega)] at hx
  cases hx
theorem upTo_nil {p : Nat → Bool} {n : Nat} : (upTo p n).length = 0 ↔ ∀ k, k < n → p k = false := by
 constructor
 ·intro h k hk
  cases hp : p k with
  | false => rfl
  | true =>
   have := (upTo_mem (p := p) (n := n) (x := k)).2 ⟨k, hk, rfl, hp⟩
   rw [List.eq_nil_of_length_eq_zero h] at this
   cases this
 ·intro h
  cases hl : upTo p n with
  | nil => rfl
  | cons x l =>
   obtain ⟨k, h1, _, h3⟩ := (upTo_mem (p := p) (n := n) (x := x)).1 (by rw [hl]; simp)
   rw [h k h1] at h3
   cases h3
theorem getD_set_ne {α : Type} {l : List α} {i j : Nat} {x d : α} (h : i ≠ j) : (l.set i x).getD j d = l.getD j d := by
 simp [List.getD_eq_getElem?_getD, List.getElem?_set, h]
def Same {α : Type} (l s : List α) (d : α) (i : Nat) : Prop := s.length = l.length ∧ ∀ j, i ≤ j → s.getD j d = l.getD j d
theorem Same.set {α : Type} {l s : List α} {d x : α} {i : Nat} (h : Same l s d i) : Same l (s.set i x) d (i + 1) :=
 ⟨by rw [List.length_set]; exact h.1, fun j hj => by rw [getD_set_ne (by omega)]; exact h.2 j (by omega)⟩
def vb (n w : Nat) : List Int := tab (fun i => ((n / 2 ^ (w - 1 - i) % 2 : Nat) : Int)) w
def sbN (l : List Vr) (st : List Int) : Nat → List Int
 | 0 => []
 | i + 1 => sbN l st i ++ vb (st.getD i 0 - (l.getD i (0, 0, 0)).1).toNat (bw l i).toNat
def sb (s : Sy) (st : List Int) : List Int := sbN s.1 st s.1.length
theorem least {P : Nat → Prop} (h : ∃ d, P d) : ∃ d, P d ∧ ∀ e, e < d → ¬ P e := by
 obtain ⟨d, hd⟩ := h
 induction d using Nat.strongRecOn with
 | ind d ih =>
  by_cases g : ∃ e, e < d ∧ P e
  ·obtain ⟨e, h1, h2⟩ := g; exact ih e h1 h2
  ·exact ⟨d, hd, fun e he hp => g ⟨e, he, hp⟩⟩
theorem Rch.trans {T : List (List Int)} {a b c : Nat} (h : Rch T [(a : Int)] b) (h2 : Rch T [(b : Int)] c) : Rch T [(a : Int)] c := by
 induction h2 with
 | base h3 => simp only [List.mem_singleton] at h3; have h3 := Int.ofNat_inj.1 h3; subst h3; exact h
 | step _ h3 ih => exact .step ih h3
theorem beq_dB {a b : Int} : (a == b) = dB (a = b) := by
 by_cases h : a = b
 ·rw [dB_t h]; simpa using h
 ·rw [dB_f h]; simpa using h
def hw1 (s : Sy) (l : List Tm) (X : List Int) (x : Int) : Prop := holdsN s l x.toNat = true → ∀ y ∈ (steps s).getD x.toNat [], y ∈ X → holdsN s l y.toNat = true
def hw (s : Sy) (l : List Tm) (X : List Int) : Prop := ∀ x ∈ X, hw1 s l X x
theorem nxtN_rule {s : Sy} {st x : List Int} : ∀ {k : Nat}, x ∈ nxtN s st k → ∃ r, r < k ∧ useM s.1 (s.2.getD r ([], [], [])) st = x ∧ x ≠ []
 | 0, h => by simp [nxtN] at h
 | k + 1, h => by
  simp only [nxtN] at h
  split at h
  ·obtain ⟨r, h1, h2⟩ := nxtN_rule h; exact ⟨r, by omega, h2⟩
  ·rename_i h1
   rcases putM_mem h with rfl | h
   ·exact ⟨k, by omega, rfl, h1⟩
   ·obtain ⟨r, h1, h2⟩ := nxtN_rule h; exact ⟨r, by omega, h2⟩
def fst1 (p : Nat → Bool) : Nat → Int
 | 0 => -1
 | n + 1 => if 0 ≤ fst1 p n then fst1 p n else if p n = true then (n : Int) else -1
theorem fst1_none {p : Nat → Bool} : ∀ {n : Nat}, (∀ j, j < n → ¬ p j = true) → fst1 p n = -1
 | 0, _ => rfl
 | n + 1, h => by rw [fst1, fst1_none fun j hj => h j (by omega), if_neg (by omega), if_neg (h n (by omega))]
theorem fst1_hit {p : Nat → Bool} {i : Nat} (hp : p i = true) (h : ∀ j, j < i → ¬ p j = true) : ∀ {n : Nat}, i < n → fst1 p n = i
 | 0, hi => absurd hi (Nat.not_lt_zero _)
 | n + 1, hi => by
  rw [fst1]
  by_cases g : i < n
  ·rw [fst1_hit hp h g, if_pos (by omega)]
  ·have : i = n := by omega
   subst this
   rw [fst1_none h, if_neg (by omega), if_pos hp]
theorem fst1_ge {p : Nat → Bool} {i n : Nat} (hi : i < n) (hp : p i = true) : 0 ≤ fst1 p n := by
 obtain ⟨d, h1, h2⟩ := least (P := fun i => p i = true) ⟨i, hp⟩
 have : ¬ i < d := fun g => h2 i g hp
 rw [fst1_hit h1 h2 (show d < n by omega)]; omega
def rbt (s : Sy) (a b : List Int) : Int := fst1 (fun r => decide (useM s.1 (s.2.getD r ([], [], [])) a ≠ [] ∧ useM s.1 (s.2.getD r ([], [], [])) a = b)) s.2.length
theorem useM_few {s : Sy} (h : valid s) {r : Ru} {a : List Int} : (useM s.1 r a).length ≤ 1048576 := by
 by_cases h0 : useM s.1 r a = []
 ·rw [h0]; simp
 ·have h1 := (useM_in h0).1; have h2 := h.1.2; omega
theorem rbt_next {s : Sy} {a b : List Int} {i : Nat} (hp : ∀ j, j < i → ¬ (¬ useM s.1 (s.2.getD j ([], [], [])) a = [] ∧ useM s.1 (s.2.getD j ([], [], [])) a = b)) : ¬ (¬ useM s.1 (s.2.getD i ([], [], [])) a = [] ∧ useM s.1 (s.2.getD i ([], [], [])) a = b) →
  ∀ j, j < i + 1 → ¬ (¬ useM s.1 (s.2.getD j ([], [], [])) a = [] ∧ useM s.1 (s.2.getD j ([], [], [])) a = b) := by
 intro hn j hj
 rcases Nat.lt_succ_iff_lt_or_eq.1 hj with hj | rfl
 ·exact hp j hj
 ·exact hn
theorem C_slices_Equal (a b : List Int) (ha : a.length ≤ 1048576) (hb : b.length ≤ 1048576) (Q : List AV → Prop) : mc.C f_slices_Equal_Sint_int [⟨L I, a⟩, ⟨L I, b⟩] Q = Q [⟨B, decide (a = b)⟩] := by
 refine Mc.Ends.c (mc.ends F_slices_Equal_Sint_int ?_)
 generalize hK : decide (a = b) = K
 simp (contextual := true) (maxSteps := 1000000) (disch := omega) only [↓Sd, ↓So, ↓Sk, ↓den, ↓denA, Sa, Sb, Sc, Se, O1.d, O2.d, O3.d, cmI, arI, envOf, putN, ↓reduceIte, Nat.reduceLT, Nat.reduceSub, Nat.reduceAdd, Int.reduceAdd, Int.reduceEq, Int.reduceLT, Int.reduceLE, arr_pos, arr_neg, tr_slices_Equal_Sint_int]
 refine ⟨fun g => ?_, fun g => ?_⟩
 ·rw [← hK, decide_eq_false]; intro h; rw [h] at g; exact g rfl
 ·have hl : a.length = b.length := by omega
  refine lp_all (fun i => [⟨L I, a⟩, ⟨L I, b⟩, ⟨I, (a.length : Int)⟩, ⟨I, (i : Int)⟩]) (fun i => a.getD i 0 = b.getD i 0) a.length _ ?_ ?_ ?_
  ·rw [hl]; rfl
  ·intro i hi
   simp (contextual := true) (maxSteps := 1000000) (disch := omega) only [↓Sd, ↓So, ↓Sk, ↓den, ↓denA, Sa, Sb, Sc, Se, O1.d, O2.d, O3.d, cmI, arI, envOf, putN, ↓reduceIte, Nat.reduceLT, Nat.reduceSub, Nat.reduceAdd, Int.reduceAdd, Int.reduceEq, Int.reduceLT, Int.reduceLE, arr_pos, arr_neg, ]
   intro h
   rw [← hK, decide_eq_false]
   intro h2; rw [h2] at h; exact h rfl
  ·intro h
   simp (contextual := true) (maxSteps := 1000000) (disch := omega) only [↓Sd, ↓So, ↓Sk, ↓den, ↓denA, Sa, Sb, Sc, Se, O1.d, O2.d, O3.d, cmI, arI, envOf, putN, ↓reduceIte, Nat.reduceLT, Nat.reduceSub, Nat.reduceAdd, Int.reduceAdd, Int.reduceEq, Int.reduceLT, Int.reduceLE, arr_pos, arr_neg, ]
   rw [← hK, decide_eq_true]
   refine List.ext_getElem hl fun i h1 h2 => ?_
   have := h i h1
   rwa [getD_lt h1, getD_lt h2] at this
theorem C_impl_ruleBetween (s : Sy) (a b : List Int) (h : valid s) (ha : inR s.1 a) (hb : b.length ≤ 1048576) (Q : List AV → Prop) : mc.C f_impl_ruleBetween [⟨L V3, s.1⟩, ⟨L TR, s.2⟩, ⟨L I, a⟩, ⟨L I, b⟩] Q = Q [⟨I, rbt s a b⟩] := by
 refine Mc.Ends.c (mc.ends F_impl_ruleBetween ?_)
 generalize hK : rbt s a b = K
 simp (contextual := true) (maxSteps := 1000000) (disch := omega) only [↓Sd, ↓So, ↓Sk, ↓den, ↓denA, Sa, Sb, Sc, Se, O1.d, O2.d, O3.d, cmI, arI, envOf, putN, ↓reduceIte, Nat.reduceLT, Nat.reduceSub, Nat.reduceAdd, Int.reduceAdd, Int.reduceEq, Int.reduceLT, Int.reduceLE, arr_pos, arr_neg, tr_impl_ruleBetween]
 refine mc.lp_for Unit (fun i _ => [⟨L I, a⟩, ⟨L I, b⟩, ⟨I, (s.2.length : Int)⟩, ⟨I, (i : Int)⟩, ⟨L V3, s.1⟩, ⟨L TR, s.2⟩]) (fun i _ => ∀ j, j < i → ¬ (¬ useM s.1 (s.2.getD j ([], [], [])) a = [] ∧ useM s.1 (s.2.getD j ([], [], [])) a = b)) s.2.length 0 () _ rfl (Nat.zero_le _) (fun j hj => absurd hj (Nat.not_lt_zero _)) ?_ ?_
 ·rintro i - hi hp
  have hu : (useM s.1 (s.2.getD i ([], [], [])) a).length ≤ 1048576 := useM_few h
  have next := rbt_next (s := s) (a := a) (b := b) hp
  have h8 := h.2.1
  have hit : (¬ useM s.1 (s.2.getD i ([], [], [])) a = [] ∧ useM s.1 (s.2.getD i ([], [], [])) a = b) → (i : Int) = K := fun hh => by
   rw [← hK, rbt, fst1_hit (i := i) (decide_eq_true hh) (fun j hj h => hp j hj (of_decide_eq_true h)) hi]
  simp (contextual := true) (maxSteps := 1000000) (disch := omega) only [↓Sd, ↓So, ↓Sk, ↓den, ↓denA, Sa, Sb, Sc, Se, O1.d, O2.d, O3.d, cmI, arI, envOf, putN, ↓reduceIte, Nat.reduceLT, Nat.reduceSub, Nat.reduceAdd, Int.reduceAdd, Int.reduceEq, Int.reduceLT, Int.reduceLE, arr_pos, arr_neg, ↓wpJoin, C_impl_use s a i h ha hi, C_slices_Equal _ b hu hb]
  exact ⟨fun g1 => ⟨fun g2 => hit ⟨g1, g2⟩, fun g2 => next fun h => g2 h.2⟩, fun g1 => next fun h => h.1 g1⟩
 ·rintro - hp
  simp (contextual := true) (maxSteps := 1000000) (disch := omega) only [↓Sd, ↓So, ↓Sk, ↓den, ↓denA, Sa, Sb, Sc, Se, O1.d, O2.d, O3.d, cmI, arI, envOf, putN, ↓reduceIte, Nat.reduceLT, Nat.reduceSub, Nat.reduceAdd, Int.reduceAdd, Int.reduceEq, Int.reduceLT, Int.reduceLE, arr_pos, arr_neg, ]
  rw [← hK, rbt, fst1_none fun j hj h => hp j hj (of_decide_eq_true h)]
def SmSS (l : List (List Int)) : Prop := l.length ≤ 4000 ∧ ∀ x ∈ l, x.length ≤ 4000
theorem SmSS.row {l : List (List Int)} (h : SmSS l) (i : Nat) : (l.getD i []).length ≤ 4000 := by
 by_cases hi : i < l.length
 ·exact h.2 _ (getD_mem hi)
 ·rw [List.getD_eq_getElem?_getD, List.getElem?_eq_none (by omega)]; simp
theorem rbt_spec {s : Sy} {a b : List Int} (h : 0 ≤ rbt s a b) : ∃ r : Nat, rbt s a b = r ∧ r < s.2.length ∧ useM s.1 (s.2.getD r ([], [], [])) a ≠ [] ∧ useM s.1 (s.2.getD r ([], [], [])) a = b := by
 by_cases g : ∃ r, r < s.2.length ∧ (useM s.1 (s.2.getD r ([], [], [])) a ≠ [] ∧ useM s.1 (s.2.getD r ([], [], [])) a = b)
 ·obtain ⟨r, h1, h2⟩ := least g
  refine ⟨r, ?_, h1.1, h1.2.1, h1.2.2⟩
  refine fst1_hit (decide_eq_true h1.2) (fun j hj hp => ?_) h1.1
  have := of_decide_eq_true hp
  exact h2 j hj ⟨by omega, this⟩
 ·rw [rbt, fst1_none fun j hj hp => g ⟨j, hj, of_decide_eq_true hp⟩] at h
  omega
def fOk (s : Sy) (F : List (List Tm)) : Prop := valid s ∧ F.length ≤ 4 ∧ ∀ i, i < F.length → kf (F.getD i []) s.1.length = 2
instance (s : Sy) (F : List (List Tm)) : Decidable (fOk s F) := by unfold fOk; infer_instance
def FewSS (F : List (List Tm)) : Prop := Few F ∧ ∀ x ∈ F, Few x
theorem FewSS.row {F : List (List Tm)} (h : FewSS F) (i : Nat) : Few (F.getD i []) := by
 by_cases hi : i < F.length
 ·exact h.2 _ (getD_mem hi)
 ·rw [List.getD_eq_getElem?_getD, List.getElem?_eq_none (by omega)]; simp [Few]
def ltr (F : List (List Tm)) (st : List Int) : List Int := tab (fun i => evl (F.getD i []) st) F.length
theorem C_spec_l20Facts (s : Sy) (F : List (List Tm)) (hs : FewSy s) (hF : FewSS F) (Q : List AV → Prop) : mc.C f_spec_l20Facts [⟨L V3, s.1⟩, ⟨L TR, s.2⟩, ⟨L (L T4), F⟩] Q = Q [⟨B, decide (fOk s F)⟩] := by
 have hl : F.length ≤ 1048576 := hF.1
 refine Mc.Ends.c (mc.ends F_spec_l20Facts ?_)
 generalize hK : decide (fOk s F) = K
 simp (contextual := true) (maxSteps := 1000000) (disch := omega) only [↓Sd, ↓So, ↓Sk, ↓den, ↓denA, Sa, Sb, Sc, Se, O1.d, O2.d, O3.d, cmI, arI, envOf, putN, ↓reduceIte, Nat.reduceLT, Nat.reduceSub, Nat.reduceAdd, Int.reduceAdd, Int.reduceEq, Int.reduceLT, Int.reduceLE, arr_pos, arr_neg, tr_spec_l20Facts]
 refine lp_all (fun i => [⟨L (L T4), F⟩, ⟨I, (i : Int)⟩, ⟨L V3, s.1⟩, ⟨L TR, s.2⟩]) (fun i => kf (F.getD i []) s.1.length = 2) F.length _ rfl ?_ ?_
 ·intro i hi
  simp (contextual := true) (maxSteps := 1000000) (disch := omega) only [↓Sd, ↓So, ↓Sk, ↓den, ↓denA, Sa, Sb, Sc, Se, O1.d, O2.d, O3.d, cmI, arI, envOf, putN, ↓reduceIte, Nat.reduceLT, Nat.reduceSub, Nat.reduceAdd, Int.reduceAdd, Int.reduceEq, Int.reduceLT, Int.reduceLE, arr_pos, arr_neg, C_spec_l2Is (F.getD i []) s.1.length 2 (hF.row i) (by omega)]
  intro g
  rw [← hK, decide_eq_false fun h => g (h.2.2 i hi)]
 ·intro h
  simp (contextual := true) (maxSteps := 1000000) (disch := omega) only [↓Sd, ↓So, ↓Sk, ↓den, ↓denA, Sa, Sb, Sc, Se, O1.d, O2.d, O3.d, cmI, arI, envOf, putN, ↓reduceIte, Nat.reduceLT, Nat.reduceSub, Nat.reduceAdd, Int.reduceAdd, Int.reduceEq, Int.reduceLT, Int.reduceLE, arr_pos, arr_neg, C_spec_SystemValid s hs]
  refine ⟨fun hv => ?_, fun hv => by rw [← hK, decide_eq_false fun h => hv h.1]⟩
  rw [← hK]
  exact decide_eq_decide.2 ⟨fun g => ⟨hv, by omega, h⟩, fun g => by have := g.2.1; omega⟩
theorem C_impl_factsOk (s : Sy) (F : List (List Tm)) (hs : FewSy s) (hF : FewSS F) (Q : List AV → Prop) : mc.C f_impl_factsOk [⟨L V3, s.1⟩, ⟨L TR, s.2⟩, ⟨L (L T4), F⟩] Q = Q [⟨B, decide (fOk s F)⟩] := by
 have hl : F.length ≤ 1048576 := hF.1
 refine Mc.Ends.c (mc.ends F_impl_factsOk ?_)
 generalize hK : decide (fOk s F) = K
 simp (contextual := true) (maxSteps := 1000000) (disch := omega) only [↓Sd, ↓So, ↓Sk, ↓den, ↓denA, Sa, Sb, Sc, Se, O1.d, O2.d, O3.d, cmI, arI, envOf, putN, ↓reduceIte, Nat.reduceLT, Nat.reduceSub, Nat.reduceAdd, Int.reduceAdd, Int.reduceEq, Int.reduceLT, Int.reduceLE, arr_pos, arr_neg, tr_impl_factsOk, C_impl_SystemValid s hs]
 refine ⟨fun hv => ⟨fun h4 => ?_, fun h4 => by rw [← hK, decide_eq_false fun h => h4 (by have := h.2.1; omega)]⟩, fun hv => by rw [← hK, decide_eq_false fun h => hv h.1]⟩
 refine lp_all (fun i => [⟨L (L T4), F⟩, ⟨I, (F.length : Int)⟩, ⟨I, (i : Int)⟩, ⟨L V3, s.1⟩, ⟨L TR, s.2⟩]) (fun i => kf (F.getD i []) s.1.length = 2) F.length _ rfl ?_ ?_
 ·intro i hi
  simp (contextual := true) (maxSteps := 1000000) (disch := omega) only [↓Sd, ↓So, ↓Sk, ↓den, ↓denA, Sa, Sb, Sc, Se, O1.d, O2.d, O3.d, cmI, arI, envOf, putN, ↓reduceIte, Nat.reduceLT, Nat.reduceSub, Nat.reduceAdd, Int.reduceAdd, Int.reduceEq, Int.reduceLT, Int.reduceLE, arr_pos, arr_neg, C_impl_kindOf (F.getD i []) s.1.length (hF.row i)]
  intro g
  have hno : ¬ fOk s F := fun h => g (h.2.2 i hi)
  rw [← hK, decide_eq_false hno]
  simp
 ·intro h
  simp (contextual := true) (maxSteps := 1000000) (disch := omega) only [↓Sd, ↓So, ↓Sk, ↓den, ↓denA, Sa, Sb, Sc, Se, O1.d, O2.d, O3.d, cmI, arI, envOf, putN, ↓reduceIte, Nat.reduceLT, Nat.reduceSub, Nat.reduceAdd, Int.reduceAdd, Int.reduceEq, Int.reduceLT, Int.reduceLE, arr_pos, arr_neg, ]
  rw [← hK, decide_eq_true (p := fOk s F) ⟨hv, by omega, h⟩]
  rfl
theorem C_spec_l20Of (F : List (List Tm)) (st : List Int) (hl : F.length ≤ 4) (h : ∀ i, i < F.length → kf (F.getD i []) st.length = 2) (hb : Bds st) (Q : List AV → Prop) : mc.C f_spec_l20Of [⟨L (L T4), F⟩, ⟨L I, st⟩] Q = Q [⟨L I, ltr F st⟩] := by
 refine Mc.Ends.c (mc.ends F_spec_l20Of ?_)
 simp (contextual := true) (maxSteps := 1000000) (disch := omega) only [↓Sd, ↓So, ↓Sk, ↓den, ↓denA, Sa, Sb, Sc, Se, O1.d, O2.d, O3.d, cmI, arI, envOf, putN, ↓reduceIte, Nat.reduceLT, Nat.reduceSub, Nat.reduceAdd, Int.reduceAdd, Int.reduceEq, Int.reduceLT, Int.reduceLE, arr_pos, arr_neg, tr_spec_l20Of]
 refine mc.lp_for (List Int) (fun i o => [⟨L (L T4), F⟩, ⟨L I, st⟩, ⟨I, (i : Int)⟩, ⟨L I, o⟩]) (fun i o => o = tab (fun i => evl (F.getD i []) st) i) F.length 0 [] _ rfl (Nat.zero_le _) rfl ?_ ?_
 ·rintro i o hi rfl
  have h1 := h i hi
  simp (contextual := true) (maxSteps := 1000000) (disch := omega) only [↓Sd, ↓So, ↓Sk, ↓den, ↓denA, Sa, Sb, Sc, Se, O1.d, O2.d, O3.d, cmI, arI, envOf, putN, ↓reduceIte, Nat.reduceLT, Nat.reduceSub, Nat.reduceAdd, Int.reduceAdd, Int.reduceEq, Int.reduceLT, Int.reduceLE, arr_pos, arr_neg, tab_len, C_spec_l2Last (F.getD i []) st st.length (by omega) hb rfl]
  exact tab_next
 ·rintro o rfl
  simp (contextual := true) (maxSteps := 1000000) (disch := omega) only [↓Sd, ↓So, ↓Sk, ↓den, ↓denA, Sa, Sb, Sc, Se, O1.d, O2.d, O3.d, cmI, arI, envOf, putN, ↓reduceIte, Nat.reduceLT, Nat.reduceSub, Nat.reduceAdd, Int.reduceAdd, Int.reduceEq, Int.reduceLT, Int.reduceLE, arr_pos, arr_neg, ]
  rfl
theorem C_impl_letters (F : List (List Tm)) (st : List Int) (hl : F.length ≤ 4) (h : ∀ i, i < F.length → kf (F.getD i []) st.length = 2) (hb : Bds st) (Q : List AV → Prop) : mc.C f_impl_letters [⟨L (L T4), F⟩, ⟨L I, st⟩] Q = Q [⟨L I, ltr F st⟩] := by
 refine Mc.Ends.c (mc.ends F_impl_letters ?_)
 simp (contextual := true) (maxSteps := 1000000) (disch := omega) only [↓Sd, ↓So, ↓Sk, ↓den, ↓denA, Sa, Sb, Sc, Se, O1.d, O2.d, O3.d, cmI, arI, envOf, putN, ↓reduceIte, Nat.reduceLT, Nat.reduceSub, Nat.reduceAdd, Int.reduceAdd, Int.reduceEq, Int.reduceLT, Int.reduceLE, arr_pos, arr_neg, tr_impl_letters]
 refine mc.lp_for (List Int) (fun i o => [⟨L I, st⟩, ⟨L (L T4), F⟩, ⟨I, (F.length : Int)⟩, ⟨I, (i : Int)⟩, ⟨L I, o⟩]) (fun i o => o = tab (fun j => if j < i then evl (F.getD j []) st else 0) F.length) F.length 0 (List.replicate F.length 0) _ rfl (Nat.zero_le _) (by rw [rep_tab]; rfl) ?_ ?_
 ·rintro i o hi rfl
  have h1 := h i hi
  simp (contextual := true) (maxSteps := 1000000) (disch := omega) only [↓Sd, ↓So, ↓Sk, ↓den, ↓denA, Sa, Sb, Sc, Se, O1.d, O2.d, O3.d, cmI, arI, envOf, putN, ↓reduceIte, Nat.reduceLT, Nat.reduceSub, Nat.reduceAdd, Int.reduceAdd, Int.reduceEq, Int.reduceLT, Int.reduceLE, arr_pos, arr_neg, tab_len, C_impl_eval (F.getD i []) st st.length (by omega) hb rfl, tab_set']
  refine tab_congr fun k _ => ?_
  by_cases e : k = i
  ·subst e; rw [if_pos rfl, if_pos (by omega)]
  ·rw [if_neg e]
   by_cases e2 : k < i
   ·rw [if_pos e2, if_pos (by omega)]
   ·rw [if_neg e2, if_neg (by omega)]
 ·rintro o rfl
  simp (contextual := true) (maxSteps := 1000000) (disch := omega) only [↓Sd, ↓So, ↓Sk, ↓den, ↓denA, Sa, Sb, Sc, Se, O1.d, O2.d, O3.d, cmI, arI, envOf, putN, ↓reduceIte, Nat.reduceLT, Nat.reduceSub, Nat.reduceAdd, Int.reduceAdd, Int.reduceEq, Int.reduceLT, Int.reduceLE, arr_pos, arr_neg, ]
  exact tab_congr fun k hk => if_pos hk
abbrev zT : Tm := (0, 0, 0, 0)
def tO (t : Tm) (i n : Int) : Prop :=
 (t.1 = 0 ∧ t.2.1 = 0 ∧ t.2.2.1 = 0 ∧ t.2.2.2 = 0) ∨ (t.1 = 1 ∧ (0 ≤ t.2.1 ∧ t.2.1 ≤ n - 1) ∧ t.2.2.1 = 0 ∧ t.2.2.2 = 0) ∨
 ((2 ≤ t.1 ∧ t.1 ≤ 7) ∧ t.2.1 = 0 ∧ (0 ≤ t.2.2.1 ∧ t.2.2.1 ≤ i - 1) ∧ (0 ≤ t.2.2.2 ∧ t.2.2.2 ≤ i - 1) ∧ ((t.1 = 2 ∨ t.1 = 5) → t.2.2.2 = t.2.2.1))
instance (t : Tm) (i n : Int) : Decidable (tO t i n) := by unfold tO; infer_instance
def tV (l : List Tm) (n : Int) : Prop := (0 ≤ n ∧ n ≤ 4) ∧ (1 ≤ l.length ∧ l.length ≤ 24) ∧ ∀ i, i < l.length → tO (l.getD i zT) i n
instance (l : List Tm) (n : Int) : Decidable (tV l n) := by unfold tV; infer_instance
theorem one_eq5 {n : Int} : (n = 2 → true = decide (True ∨ False)) ∧ (¬n = 2 → (n == 5) = decide (False ∨ n = 5)) := by
 refine ⟨fun _ => by simp, fun h => ?_⟩
 by_cases g : n = 5
 ·subst g; rfl
 ·simp [g]
theorem tO_goal {o m a b i n : Int} {K : Bool} (hK : decide (tO (o, m, a, b) i n) = K) : (o = 0 → (m = 0 → (a = 0 → (b == 0) = K) ∧ (¬a = 0 → false = K)) ∧ (¬m = 0 → false = K)) ∧
  (¬o = 0 →
   (o = 1 →
     (0 ≤ m ∧ m ≤ n - 1 → (a = 0 → (b == 0) = K) ∧ (¬a = 0 → false = K)) ∧ (¬(0 ≤ m ∧ m ≤ n - 1) → false = K)) ∧
    (¬o = 1 →
     (¬(2 ≤ o ∧ o ≤ 7) → false = K) ∧
      (2 ≤ o ∧ o ≤ 7 →
       (¬m = 0 → false = K) ∧
        (m = 0 →
         (¬(0 ≤ a ∧ a ≤ i - 1) → false = K) ∧
          (0 ≤ a ∧ a ≤ i - 1 →
           (¬(0 ≤ b ∧ b ≤ i - 1) → false = K) ∧
            (0 ≤ b ∧ b ≤ i - 1 → (¬(o = 2 ∨ o = 5) → true = K) ∧ (o = 2 ∨ o = 5 → (b == a) = K))))))) := by
 have e : ∀ {x y : Int}, (x == y) = decide (x = y) := fun {x y} => by rw [beq_dB, dB_eq]
 simp only [e]
 unfold tO at hK
 simp only at hK
 cases K with
 | true =>
  have hp := of_decide_eq_true hK
  simp only [decide_eq_true_eq, Bool.false_eq_true]
  repeat' first | apply And.intro | intro _
  all_goals first
   | trivial
   | omega
 | false =>
  have hp := of_decide_eq_false hK
  simp only [decide_eq_false_iff_not, Bool.true_eq_false]
  repeat' first | apply And.intro | intro _
  all_goals first
   | trivial
   | omega
theorem tO_goal2 {o m a b i n : Int} {q : Bool} (hK : decide (tO (o, m, a, b) i n) = q) : (o = 0 → ((0 : Int) == 0 && (m == 0 && (a == 0 && b == 0))) = q) ∧
  (¬o = 0 →
   (o = 1 →
     (0 ≤ m ∧ m ≤ n - 1 → (a = 0 → (b == 0) = q) ∧ (¬a = 0 → false = q)) ∧
      (¬(0 ≤ m ∧ m ≤ n - 1) → false = q)) ∧
    (¬o = 1 →
     (0 ≤ o ∧ o ≤ 7 →
       (m = 0 →
         (0 ≤ a ∧ a ≤ i - 1 →
           (0 ≤ b ∧ b ≤ i - 1 →
             (a = b → true = q) ∧
              (¬a = b →
               (¬o = 2 → (o != 5) = q) ∧
                (o = 2 → false = q))) ∧
            (¬(0 ≤ b ∧ b ≤ i - 1) →
             false = q)) ∧
          (¬(0 ≤ a ∧ a ≤ i - 1) →
           false = q)) ∧
        (¬m = 0 → false = q)) ∧
      (¬(0 ≤ o ∧ o ≤ 7) → false = q))) := by
 have e : ∀ {x y : Int}, (x == y) = decide (x = y) := fun {x y} => by rw [beq_dB, dB_eq]
 have e2 : ∀ {x y : Int}, (x != y) = !decide (x = y) := fun {x y} => by rw [← e]; rfl
 simp only [e, e2]
 unfold tO at hK
 simp only at hK
 cases q with
 | true =>
  have hp := of_decide_eq_true hK
  repeat' first | apply And.intro | intro _
  all_goals first
   | rfl
   | omega
   | (simp only [decide_true, Bool.true_and, Bool.and_eq_true, decide_eq_true_eq, Bool.not_eq_true', decide_eq_false_iff_not]; omega)
 | false =>
  have hp := of_decide_eq_false hK
  repeat' first | apply And.intro | intro _
  all_goals first
   | rfl
   | omega
   | (simp only [decide_true, Bool.true_and, Bool.and_eq_false_iff, decide_eq_false_iff_not, Bool.not_eq_false', decide_eq_true_eq]; omega)
theorem C_spec_l20One (n : Int) (Q : List AV → Prop) : mc.C f_spec_l20One [⟨I, n⟩] Q = Q [⟨B, decide (n = 2 ∨ n = 5)⟩] := by
 refine Mc.Ends.c (mc.ends F_spec_l20One ?_)
 simp (contextual := true) (maxSteps := 1000000) (disch := omega) only [↓Sd, ↓So, ↓Sk, ↓den, ↓denA, Sa, Sb, Sc, Se, O1.d, O2.d, O3.d, cmI, arI, envOf, putN, ↓reduceIte, Nat.reduceLT, Nat.reduceSub, Nat.reduceAdd, Int.reduceAdd, Int.reduceEq, Int.reduceLT, Int.reduceLE, arr_pos, arr_neg, tr_spec_l20One]
 exact one_eq5
theorem C_spec_l20Step (t : Tm) (i n : Int) (hi : 0 ≤ i ∧ i ≤ 100) (hn : 0 ≤ n ∧ n ≤ 4) (Q : List AV → Prop) : mc.C f_spec_l20Step [⟨I, t.1⟩, ⟨I, t.2.1⟩, ⟨I, t.2.2.1⟩, ⟨I, t.2.2.2⟩, ⟨I, i⟩, ⟨I, n⟩] Q = Q [⟨B, decide (tO t i n)⟩] := by
 refine Mc.Ends.c (mc.ends F_spec_l20Step ?_)
 generalize hK : decide (tO t i n) = K
 obtain ⟨o, m, a, b⟩ := t
 simp (contextual := true) (maxSteps := 1000000) (disch := omega) only [↓Sd, ↓So, ↓Sk, ↓den, ↓denA, Sa, Sb, Sc, Se, O1.d, O2.d, O3.d, cmI, arI, envOf, putN, ↓reduceIte, Nat.reduceLT, Nat.reduceSub, Nat.reduceAdd, Int.reduceAdd, Int.reduceEq, Int.reduceLT, Int.reduceLE, arr_pos, arr_neg, tr_spec_l20Step, C_spec_l1In, C_spec_l20One]
 exact tO_goal hK
theorem C_spec_TimesValid (l : List Tm) (n : Int) (hl : Few l) (Q : List AV → Prop) : mc.C f_spec_TimesValid [⟨L T4, l⟩, ⟨I, n⟩] Q = Q [⟨B, decide (tV l n)⟩] := by
 refine Mc.Ends.c (mc.ends F_spec_TimesValid ?_)
 generalize hK : decide (tV l n) = K
 simp (contextual := true) (maxSteps := 1000000) (disch := omega) only [↓Sd, ↓So, ↓Sk, ↓den, ↓denA, Sa, Sb, Sc, Se, O1.d, O2.d, O3.d, cmI, arI, envOf, putN, ↓reduceIte, Nat.reduceLT, Nat.reduceSub, Nat.reduceAdd, Int.reduceAdd, Int.reduceEq, Int.reduceLT, Int.reduceLE, arr_pos, arr_neg, tr_spec_TimesValid, C_spec_l1In]
 refine ⟨fun g => ?_, fun g => ⟨fun g2 => ?_, fun g2 => ?_⟩⟩
 ·rw [← hK, decide_eq_false fun h => g h.1]
 ·rw [← hK, decide_eq_false fun h => g2 (by have := h.2.1; omega)]
 ·refine lp_all (fun i => [⟨L T4, l⟩, ⟨I, n⟩, ⟨I, (i : Int)⟩]) (fun i => tO (l.getD i zT) i n) l.length _ rfl ?_ ?_
  ·intro i hi
   simp (contextual := true) (maxSteps := 1000000) (disch := omega) only [↓Sd, ↓So, ↓Sk, ↓den, ↓denA, Sa, Sb, Sc, Se, O1.d, O2.d, O3.d, cmI, arI, envOf, putN, ↓reduceIte, Nat.reduceLT, Nat.reduceSub, Nat.reduceAdd, Int.reduceAdd, Int.reduceEq, Int.reduceLT, Int.reduceLE, arr_pos, arr_neg, C_spec_l20Step (l.getD i (0, 0, 0, 0)) (i : Int) n (by omega) g]
   exact fun h => by rw [← hK, decide_eq_false fun g => h (g.2.2 i hi)]
  ·intro h
   simp (contextual := true) (maxSteps := 1000000) (disch := omega) only [↓Sd, ↓So, ↓Sk, ↓den, ↓denA, Sa, Sb, Sc, Se, O1.d, O2.d, O3.d, cmI, arI, envOf, putN, ↓reduceIte, Nat.reduceLT, Nat.reduceSub, Nat.reduceAdd, Int.reduceAdd, Int.reduceEq, Int.reduceLT, Int.reduceLE, arr_pos, arr_neg, ]
   rw [← hK, decide_eq_true (p := tV l n) ⟨g, by omega, h⟩]
theorem C_impl_TimesValid (l : List Tm) (n : Int) (hl : Few l) (Q : List AV → Prop) : mc.C f_impl_TimesValid [⟨L T4, l⟩, ⟨I, n⟩] Q = Q [⟨B, decide (tV l n)⟩] := by
 refine Mc.Ends.c (mc.ends F_impl_TimesValid ?_)
 generalize hK : decide (tV l n) = K
 simp (contextual := true) (maxSteps := 1000000) (disch := omega) only [↓Sd, ↓So, ↓Sk, ↓den, ↓denA, Sa, Sb, Sc, Se, O1.d, O2.d, O3.d, cmI, arI, envOf, putN, ↓reduceIte, Nat.reduceLT, Nat.reduceSub, Nat.reduceAdd, Int.reduceAdd, Int.reduceEq, Int.reduceLT, Int.reduceLE, arr_pos, arr_neg, tr_impl_TimesValid, C_impl_in]
 refine ⟨fun g => ?_, fun g => ⟨fun g2 => ?_, fun g2 => ?_⟩⟩
 ·rw [← hK, decide_eq_false fun h => g h.1]
 ·rw [← hK, decide_eq_false fun h => g2 (by have := h.2.1; omega)]
 ·refine lp_all (fun i => [⟨I, n⟩, ⟨L T4, l⟩, ⟨I, (l.length : Int)⟩, ⟨I, (i : Int)⟩]) (fun i => tO (l.getD i zT) i n) l.length _ rfl ?_ ?_
  ·intro i hi
   have hno : ¬ tO (l.getD i zT) i n → false = K := fun h => by rw [← hK, decide_eq_false fun g => h (g.2.2 i hi)]
   simp (contextual := true) (maxSteps := 1000000) (disch := omega) only [↓Sd, ↓So, ↓Sk, ↓den, ↓denA, Sa, Sb, Sc, Se, O1.d, O2.d, O3.d, cmI, arI, envOf, putN, ↓reduceIte, Nat.reduceLT, Nat.reduceSub, Nat.reduceAdd, Int.reduceAdd, Int.reduceEq, Int.reduceLT, Int.reduceLE, arr_pos, arr_neg, C_impl_in]
   refine mc.wp_join (fun us => us = [⟨I, n⟩, ⟨B, decide (tO (l.getD i zT) i n)⟩, ⟨L T4, l⟩, ⟨I, (l.length : Int)⟩, ⟨I, (i : Int)⟩]) ?_ ?_
   ·generalize hq : decide (tO (l.getD i zT) i n) = q
    simp (contextual := true) (maxSteps := 1000000) (disch := omega) only [↓Sd, ↓So, ↓Sk, ↓den, ↓denA, Sa, Sb, Sc, Se, O1.d, O2.d, O3.d, cmI, arI, envOf, putN, ↓reduceIte, Nat.reduceLT, Nat.reduceSub, Nat.reduceAdd, Int.reduceAdd, Int.reduceEq, Int.reduceLT, Int.reduceLE, arr_pos, arr_neg, C_impl_in]
    exact tO_goal2 hq
   ·rintro us rfl
    simp (contextual := true) (maxSteps := 1000000) (disch := omega) only [↓Sd, ↓So, ↓Sk, ↓den, ↓denA, Sa, Sb, Sc, Se, O1.d, O2.d, O3.d, cmI, arI, envOf, putN, ↓reduceIte, Nat.reduceLT, Nat.reduceSub, Nat.reduceAdd, Int.reduceAdd, Int.reduceEq, Int.reduceLT, Int.reduceLE, arr_pos, arr_neg, ]
    exact hno
  ·intro h
   simp (contextual := true) (maxSteps := 1000000) (disch := omega) only [↓Sd, ↓So, ↓Sk, ↓den, ↓denA, Sa, Sb, Sc, Se, O1.d, O2.d, O3.d, cmI, arI, envOf, putN, ↓reduceIte, Nat.reduceLT, Nat.reduceSub, Nat.reduceAdd, Int.reduceAdd, Int.reduceEq, Int.reduceLT, Int.reduceLE, arr_pos, arr_neg, ]
   rw [← hK, decide_eq_true (p := tV l n) ⟨g, by omega, h⟩]
theorem sz_TimeS (l : List Tm) (n : Int) (hn : 0 ≤ n ∧ n ≤ 1048576) (hl : Lt63 l) {Q : List AV → Prop} (h : ∀ k : Int, k ≤ n → (0 ≤ k → Few l) → Q [⟨I, k⟩]) : mc.C f_laws_szTimeS [⟨L T4, l⟩, ⟨I, n⟩] Q := by
 unfold Lt63 at hl
 rw [Mc.Ends.c (outs := [⟨I, if n - l.length < 0 then -1 else n - l.length⟩]) (mc.ends F_laws_szTimeS (by simp (contextual := true) (maxSteps := 1000000) (disch := omega) only [↓Sd, ↓So, ↓Sk, ↓den, ↓denA, Sa, Sb, Sc, Se, O1.d, O2.d, O3.d, cmI, arI, envOf, putN, ↓reduceIte, Nat.reduceLT, Nat.reduceSub, Nat.reduceAdd, Int.reduceAdd, Int.reduceEq, Int.reduceLT, Int.reduceLE, arr_pos, arr_neg, tr_laws_szTimeS] <;> grind))]
 exact h _ (by split <;> omega) (by unfold Few; split <;> omega)
theorem to_Time (v : Tm) (Q : List AV → Prop) : mc.C f_laws_toTime [⟨I, v.1⟩, ⟨I, v.2.1⟩, ⟨I, v.2.2.1⟩, ⟨I, v.2.2.2⟩] Q = Q [⟨I, v.1⟩, ⟨I, v.2.1⟩, ⟨I, v.2.2.1⟩, ⟨I, v.2.2.2⟩] :=
 Mc.Ends.c (mc.ends F_laws_toTime (by simp (contextual := true) (maxSteps := 1000000) (disch := omega) only [↓Sd, ↓So, ↓Sk, ↓den, ↓denA, Sa, Sb, Sc, Se, O1.d, O2.d, O3.d, cmI, arI, envOf, putN, ↓reduceIte, Nat.reduceLT, Nat.reduceSub, Nat.reduceAdd, Int.reduceAdd, Int.reduceEq, Int.reduceLT, Int.reduceLE, arr_pos, arr_neg, tr_laws_toTime]))
theorem to_TimeS (l : List Tm) (h : Few l) (Q : List AV → Prop) : mc.C f_laws_toTimeS [⟨L T4, l⟩] Q = Q [⟨L T4, l⟩] := by
 have := few_lim h
 refine Mc.Ends.c (mc.ends F_laws_toTimeS ?_)
 simp (contextual := true) (maxSteps := 1000000) (disch := omega) only [↓Sd, ↓So, ↓Sk, ↓den, ↓denA, Sa, Sb, Sc, Se, O1.d, O2.d, O3.d, cmI, arI, envOf, putN, ↓reduceIte, Nat.reduceLT, Nat.reduceSub, Nat.reduceAdd, Int.reduceAdd, Int.reduceEq, Int.reduceLT, Int.reduceLE, arr_pos, arr_neg, tr_laws_toTimeS]
 refine lp_copy T4 l ?_ ?_
 ·intro i s hi hs
  simp (contextual := true) (maxSteps := 1000000) (disch := omega) only [↓Sd, ↓So, ↓Sk, ↓den, ↓denA, Sa, Sb, Sc, Se, O1.d, O2.d, O3.d, cmI, arI, envOf, putN, ↓reduceIte, Nat.reduceLT, Nat.reduceSub, Nat.reduceAdd, Int.reduceAdd, Int.reduceEq, Int.reduceLT, Int.reduceLE, arr_pos, arr_neg, to_Time]
 ·simp (contextual := true) (maxSteps := 1000000) (disch := omega) only [↓Sd, ↓So, ↓Sk, ↓den, ↓denA, Sa, Sb, Sc, Se, O1.d, O2.d, O3.d, cmI, arI, envOf, putN, ↓reduceIte, Nat.reduceLT, Nat.reduceSub, Nat.reduceAdd, Int.reduceAdd, Int.reduceEq, Int.reduceLT, Int.reduceLE, arr_pos, arr_neg, ]
theorem eq_Time (v : Tm) (Q : List AV → Prop) : mc.C f_laws_eqTime [⟨I, v.1⟩, ⟨I, v.2.1⟩, ⟨I, v.2.2.1⟩, ⟨I, v.2.2.2⟩, ⟨I, v.1⟩, ⟨I, v.2.1⟩, ⟨I, v.2.2.1⟩, ⟨I, v.2.2.2⟩] Q = Q [⟨B, true⟩] :=
 Mc.Ends.c (mc.ends F_laws_eqTime (by simp (contextual := true) (maxSteps := 1000000) (disch := omega) only [↓Sd, ↓So, ↓Sk, ↓den, ↓denA, Sa, Sb, Sc, Se, O1.d, O2.d, O3.d, cmI, arI, envOf, putN, ↓reduceIte, Nat.reduceLT, Nat.reduceSub, Nat.reduceAdd, Int.reduceAdd, Int.reduceEq, Int.reduceLT, Int.reduceLE, arr_pos, arr_neg, tr_laws_eqTime]))
theorem eq_TimeS (l : List Tm) (h : Few l) (Q : List AV → Prop) : mc.C f_laws_eqTimeS [⟨L T4, l⟩, ⟨L T4, l⟩] Q = Q [⟨B, true⟩] := by
 have := few_lim h
 refine Mc.Ends.c (mc.ends F_laws_eqTimeS ?_)
 simp (contextual := true) (maxSteps := 1000000) (disch := omega) only [↓Sd, ↓So, ↓Sk, ↓den, ↓denA, Sa, Sb, Sc, Se, O1.d, O2.d, O3.d, cmI, arI, envOf, putN, ↓reduceIte, Nat.reduceLT, Nat.reduceSub, Nat.reduceAdd, Int.reduceAdd, Int.reduceEq, Int.reduceLT, Int.reduceLE, arr_pos, arr_neg, tr_laws_eqTimeS]
 refine lp_self T4 l (fun i hi => ?_) ?_
 ·simp (contextual := true) (maxSteps := 1000000) (disch := omega) only [↓Sd, ↓So, ↓Sk, ↓den, ↓denA, Sa, Sb, Sc, Se, O1.d, O2.d, O3.d, cmI, arI, envOf, putN, ↓reduceIte, Nat.reduceLT, Nat.reduceSub, Nat.reduceAdd, Int.reduceAdd, Int.reduceEq, Int.reduceLT, Int.reduceLE, arr_pos, arr_neg, eq_Time]
 ·simp (contextual := true) (maxSteps := 1000000) (disch := omega) only [↓Sd, ↓So, ↓Sk, ↓den, ↓denA, Sa, Sb, Sc, Se, O1.d, O2.d, O3.d, cmI, arI, envOf, putN, ↓reduceIte, Nat.reduceLT, Nat.reduceSub, Nat.reduceAdd, Int.reduceAdd, Int.reduceEq, Int.reduceLT, Int.reduceLE, arr_pos, arr_neg, ]
theorem putM_ne {x : List Int} : ∀ {l : List (List Int)}, putM x l ≠ []
 | [] => by simp [putM]
 | y :: l => by
  simp only [putM]
  split
  ·simp
  ·split <;> simp
theorem nxtN_nil {s : Sy} {st : List Int} : ∀ {k : Nat}, nxtN s st k = [] → ∀ j, j < k → useM s.1 (s.2.getD j ([], [], [])) st = []
 | 0, _, j, hj => absurd hj (Nat.not_lt_zero _)
 | k + 1, h, j, hj => by
  simp only [nxtN] at h
  split at h
  ·rename_i g
   rcases Nat.lt_succ_iff_lt_or_eq.1 hj with h1 | rfl
   ·exact nxtN_nil h j h1
   ·exact g
  ·exact absurd h putM_ne
theorem nxt_nil {s : Sy} {st : List Int} : nxt s st = [] ↔ ∀ j, j < s.2.length → useM s.1 (s.2.getD j ([], [], [])) st = [] := by
 refine ⟨nxtN_nil, fun h => ?_⟩
 cases g : nxt s st with
 | nil => rfl
 | cons x t =>
  have hx : x ∈ nxtN s st s.2.length := by show x ∈ nxt s st; rw [g]; exact List.mem_cons_self
  obtain ⟨r, h1, h2, h3⟩ := nxtN_rule hx
  exact absurd (h2.symm.trans (h r h1)) h3
def usb (s : Sy) (st : List Int) : List Int := upTo (fun k => decide (¬ useM s.1 (s.2.getD k ([], [], [])) st = [])) s.2.length
theorem usb_nil {s : Sy} {st : List Int} : ((usb s st).length : Int) = 0 ↔ nxt s st = [] := by
 rw [nxt_nil]
 have h1 := @upTo_nil (fun k => decide (¬ useM s.1 (s.2.getD k ([], [], [])) st = [])) s.2.length
 unfold usb
 constructor
 ·intro h j hj
  have := h1.1 (by omega) j hj
  simpa using this
 ·intro h
  have := h1.2 fun k hk => decide_eq_false fun g => g (h k hk)
  omega
theorem C_impl_usableIn (s : Sy) (a : List Int) (h : valid s) (ha : inR s.1 a) (Q : List AV → Prop) : mc.C f_impl_usableIn [⟨L V3, s.1⟩, ⟨L TR, s.2⟩, ⟨L I, a⟩] Q = Q [⟨L I, usb s a⟩] := by
 refine Mc.Ends.c (mc.ends F_impl_usableIn ?_)
 simp (contextual := true) (maxSteps := 1000000) (disch := omega) only [↓Sd, ↓So, ↓Sk, ↓den, ↓denA, Sa, Sb, Sc, Se, O1.d, O2.d, O3.d, cmI, arI, envOf, putN, ↓reduceIte, Nat.reduceLT, Nat.reduceSub, Nat.reduceAdd, Int.reduceAdd, Int.reduceEq, Int.reduceLT, Int.reduceLE, arr_pos, arr_neg, tr_impl_usableIn]
 refine mc.lp_for (List Int) (fun i o => [⟨L I, a⟩, ⟨I, (s.2.length : Int)⟩, ⟨I, (i : Int)⟩, ⟨L V3, s.1⟩, ⟨L TR, s.2⟩, ⟨L I, o⟩]) (fun i o => o = upTo (fun k => decide (¬ useM s.1 (s.2.getD k ([], [], [])) a = [])) i) s.2.length 0 [] _ rfl (Nat.zero_le _) rfl ?_ ?_
 ·rintro i o hi rfl
  have h1 := @upTo_len (fun k => decide (¬ useM s.1 (s.2.getD k ([], [], [])) a = [])) i
  have h8 := h.2.1
  simp (contextual := true) (maxSteps := 1000000) (disch := omega) only [↓Sd, ↓So, ↓Sk, ↓den, ↓denA, Sa, Sb, Sc, Se, O1.d, O2.d, O3.d, cmI, arI, envOf, putN, ↓reduceIte, Nat.reduceLT, Nat.reduceSub, Nat.reduceAdd, Int.reduceAdd, Int.reduceEq, Int.reduceLT, Int.reduceLE, arr_pos, arr_neg, ↓wpJoin, C_impl_use s a i h ha hi]
  exact ⟨fun g => (upTo_s (p := fun k => decide (¬ useM s.1 (s.2.getD k ([], [], [])) a = [])) (decide_eq_true g)).symm, fun g => (upTo_n (p := fun k => decide (¬ useM s.1 (s.2.getD k ([], [], [])) a = [])) (by simpa using g)).symm⟩
 ·rintro o rfl
  have h1 := @upTo_len (fun k => decide (¬ useM s.1 (s.2.getD k ([], [], [])) a = [])) s.2.length
  have h8 := h.2.1
  simp (contextual := true) (maxSteps := 1000000) (disch := omega) only [↓Sd, ↓So, ↓Sk, ↓den, ↓denA, Sa, Sb, Sc, Se, O1.d, O2.d, O3.d, cmI, arI, envOf, putN, ↓reduceIte, Nat.reduceLT, Nat.reduceSub, Nat.reduceAdd, Int.reduceAdd, Int.reduceEq, Int.reduceLT, Int.reduceLE, arr_pos, arr_neg, C_impl_clone_int (upTo (fun k => decide (¬ useM s.1 (s.2.getD k ([], [], [])) a = [])) s.2.length) (by omega)]
  rfl
theorem C_impl_follows (s : Sy) (a b : List Int) (h : valid s) (ha : inR s.1 a) (hb : inR s.1 b) (Q : List AV → Prop) : mc.C f_impl_follows [⟨L V3, s.1⟩, ⟨L TR, s.2⟩, ⟨L I, a⟩, ⟨L I, b⟩] Q = Q [⟨B, if nxt s a = [] then decide (a = b) else decide (0 ≤ rbt s a b)⟩] := by
 refine Mc.Ends.c (mc.ends F_impl_follows ?_)
 have hla : a.length ≤ 1048576 := by have := ha.1; have := h.1.2; omega
 have hlb : b.length ≤ 1048576 := by have := hb.1; have := h.1.2; omega
 simp (contextual := true) (maxSteps := 1000000) (disch := omega) only [↓Sd, ↓So, ↓Sk, ↓den, ↓denA, Sa, Sb, Sc, Se, O1.d, O2.d, O3.d, cmI, arI, envOf, putN, ↓reduceIte, Nat.reduceLT, Nat.reduceSub, Nat.reduceAdd, Int.reduceAdd, Int.reduceEq, Int.reduceLT, Int.reduceLE, arr_pos, arr_neg, tr_impl_follows, C_impl_usableIn s a h ha]
 refine ⟨fun g => ?_, fun g => ?_⟩
 ·rw [if_pos (usb_nil.1 g)]
  simp (contextual := true) (maxSteps := 1000000) (disch := omega) only [↓Sd, ↓So, ↓Sk, ↓den, ↓denA, Sa, Sb, Sc, Se, O1.d, O2.d, O3.d, cmI, arI, envOf, putN, ↓reduceIte, Nat.reduceLT, Nat.reduceSub, Nat.reduceAdd, Int.reduceAdd, Int.reduceEq, Int.reduceLT, Int.reduceLE, arr_pos, arr_neg, C_slices_Equal a b hla hlb]
 ·rw [if_neg fun e => g (usb_nil.2 e)]
  simp (contextual := true) (maxSteps := 1000000) (disch := omega) only [↓Sd, ↓So, ↓Sk, ↓den, ↓denA, Sa, Sb, Sc, Se, O1.d, O2.d, O3.d, cmI, arI, envOf, putN, ↓reduceIte, Nat.reduceLT, Nat.reduceSub, Nat.reduceAdd, Int.reduceAdd, Int.reduceEq, Int.reduceLT, Int.reduceLE, arr_pos, arr_neg, C_impl_ruleBetween s a b h ha hlb]
def bits (s : Sy) (X : List Int) : List (List Int) := X.map fun x => sb s (stN s x.toNat)
def bt (b : Bool) : Int := if b = true then 1 else 0
theorem bt_and {a b : Bool} : IntKind.i64.wrap (((BitVec.ofInt IntKind.i64.bits (bt a) &&& BitVec.ofInt IntKind.i64.bits (bt b)).toNat : Nat) : Int) = bt (a && b) := by cases a <;> cases b <;> decide
theorem bt_or {a b : Bool} : IntKind.i64.wrap (((BitVec.ofInt IntKind.i64.bits (bt a) ||| BitVec.ofInt IntKind.i64.bits (bt b)).toNat : Nat) : Int) = bt (a || b) := by cases a <;> cases b <;> decide
theorem bt_not {a : Bool} : IntKind.i64.wrap (1 - bt a) = bt (!a) := by cases a <;> decide
def hop (t : Tm) (P wl : Nat → Nat → Bool) (s m i : Nat) (x : Bool) : Bool :=
 if t.1 = 0 then true else if t.1 = 1 then wl i t.2.1.toNat else if t.1 = 2 then !P t.2.2.1.toNat i else if t.1 = 3 then P t.2.2.1.toNat i && P t.2.2.2.toNat i else
 if t.1 = 4 then P t.2.2.1.toNat i || P t.2.2.2.toNat i else if t.1 = 5 then P t.2.2.1.toNat (if i + 1 = m then s else i + 1) else
 if t.1 = 6 then P t.2.2.2.toNat i || (P t.2.2.1.toNat i && x) else P t.2.2.2.toNat i && (P t.2.2.1.toNat i || x)
def gd (hp : Nat → Bool → Bool) (m : Nat) (w : Bool) : Nat → Bool
 | 0 => w
 | k + 1 => hp (m - (k + 1)) (gd hp m w k)
def gq (hp : Nat → Bool → Bool) (m : Nat) (w : Bool) (i : Nat) : Bool := gd hp m w (m - i)
theorem gq_m {hp : Nat → Bool → Bool} {m : Nat} {w : Bool} : gq hp m w m = w := by simp [gq, gd]
theorem gq_s {hp : Nat → Bool → Bool} {m : Nat} {w : Bool} {i : Nat} (h : i < m) : gq hp m w i = hp i (gq hp m w (i + 1)) := by
 unfold gq
 rw [show m - i = (m - (i + 1)) + 1 by omega, gd]
 congr 1; omega
def rwB (t : Tm) (P wl : Nat → Nat → Bool) (s m : Nat) : Nat → Bool := gq (hop t P wl s m) m (gq (hop t P wl s m) m (decide (t.1 = 7)) s)
def pl (l : List Tm) (wl : Nat → Nat → Bool) (s m : Nat) : Nat → List (Nat → Bool)
 | 0 => []
 | k + 1 => pl l wl s m k ++ [rwB (l.getD k zT) (fun a i => (pl l wl s m k).getD a (fun _ => false) i) wl s m]
theorem pl_len {l : List Tm} {wl : Nat → Nat → Bool} {s m : Nat} : ∀ {k : Nat}, (pl l wl s m k).length = k
 | 0 => rfl
 | k + 1 => by rw [pl, List.length_append, pl_len (k := k)]; rfl
def bR (m : Nat) (ρ : Nat → Bool) : List Int := tab (fun i => bt (ρ i)) m
theorem bR_len {m : Nat} {ρ : Nat → Bool} : (bR m ρ).length = m := tab_len
theorem bR_get {m i : Nat} {ρ : Nat → Bool} (h : i < m) : (bR m ρ).getD i 0 = bt (ρ i) := tab_get h
theorem bR_set {m i : Nat} {w : Bool} {hp : Nat → Bool → Bool} {x : Nat → Bool} (hi : i < m) : (bR m (fun k => if i + 1 ≤ k then gq hp m w k else x k)).set i (bt (gq hp m w i)) = bR m (fun k => if i ≤ k then gq hp m w k else x k) := by
 unfold bR
 rw [tab_set']
 refine tab_congr fun k _ => ?_
 dsimp only
 by_cases e : k = i
 ·rw [if_pos e, e, if_pos (Nat.le_refl _)]
 ·rw [if_neg e]
  by_cases e2 : i ≤ k
  ·rw [if_pos e2, if_pos (by omega)]
  ·rw [if_neg e2, if_neg (by omega)]
def xs (hp : Nat → Bool → Bool) (s m : Nat) (st : Bool) : Nat → Nat → Bool
 | 0 => fun _ => st
 | p + 1 => gq hp m (xs hp s m st p s)
theorem flat_next {α : Type} {X : List (List α)} {i : Nat} (h : i < X.length) : (X.take (i + 1)).flatten = (X.take i).flatten ++ X.getD i [] := by
 rw [List.take_succ_eq_append_getElem h, List.flatten_append, getD_lt h]; simp
theorem flat_le {α : Type} {X : List (List α)} {i : Nat} : (X.take i).flatten.length ≤ X.flatten.length := by
 conv => rhs; rw [← List.take_append_drop i X, List.flatten_append, List.length_append]
 omega
theorem C_slices_Concat2 (X : List (List (List Int))) (h : X.flatten.length ≤ 4000000) (hx : X.length ≤ 100) (Q : List AV → Prop) : mc.C f_slices_Concat_SSint_Sint [⟨L (L (L I)), X⟩] Q = Q [⟨L (L I), X.flatten⟩] := by
 refine Mc.Ends.c (mc.ends F_slices_Concat_SSint_Sint ?_)
 simp (contextual := true) (maxSteps := 1000000) (disch := omega) only [↓Sd, ↓So, ↓Sk, ↓den, ↓denA, Sa, Sb, Sc, Se, O1.d, O2.d, O3.d, cmI, arI, envOf, putN, ↓reduceIte, Nat.reduceLT, Nat.reduceSub, Nat.reduceAdd, Int.reduceAdd, Int.reduceEq, Int.reduceLT, Int.reduceLE, arr_pos, arr_neg, tr_slices_Concat_SSint_Sint]
 refine mc.lp_for Unit (fun i _ => [⟨L (L (L I)), X⟩, ⟨I, ((X.take i).flatten.length : Int)⟩, ⟨L (L (L I)), X⟩, ⟨I, (X.length : Int)⟩, ⟨I, (i : Int)⟩]) (fun _ _ => True) X.length 0 () _ rfl (by omega) trivial ?_ ?_
 ·rintro i - hi -
  have h1 := @flat_le _ X (i + 1)
  rw [flat_next hi] at h1 ⊢
  rw [List.length_append] at h1 ⊢
  simp (contextual := true) (maxSteps := 1000000) (disch := omega) only [↓Sd, ↓So, ↓Sk, ↓den, ↓denA, Sa, Sb, Sc, Se, O1.d, O2.d, O3.d, cmI, arI, envOf, putN, ↓reduceIte, Nat.reduceLT, Nat.reduceSub, Nat.reduceAdd, Int.reduceAdd, Int.reduceEq, Int.reduceLT, Int.reduceLE, arr_pos, arr_neg, ]
 ·rintro - -
  rw [List.take_length]
  simp (contextual := true) (maxSteps := 1000000) (disch := omega) only [↓Sd, ↓So, ↓Sk, ↓den, ↓denA, Sa, Sb, Sc, Se, O1.d, O2.d, O3.d, cmI, arI, envOf, putN, ↓reduceIte, Nat.reduceLT, Nat.reduceSub, Nat.reduceAdd, Int.reduceAdd, Int.reduceEq, Int.reduceLT, Int.reduceLE, arr_pos, arr_neg, ]
  refine mc.lp_for (List (List Int)) (fun i o => [⟨L (L (L I)), X⟩, ⟨I, (X.length : Int)⟩, ⟨I, (i : Int)⟩, ⟨L (L I), o⟩]) (fun i o => o = (X.take i).flatten) X.length 0 [] _ rfl (by omega) (by simp) ?_ ?_
  ·rintro i o hi rfl
   have h1 := @flat_le _ X (i + 1)
   rw [flat_next hi] at h1 ⊢
   rw [List.length_append] at h1
   simp (contextual := true) (maxSteps := 1000000) (disch := omega) only [↓Sd, ↓So, ↓Sk, ↓den, ↓denA, Sa, Sb, Sc, Se, O1.d, O2.d, O3.d, cmI, arI, envOf, putN, ↓reduceIte, Nat.reduceLT, Nat.reduceSub, Nat.reduceAdd, Int.reduceAdd, Int.reduceEq, Int.reduceLT, Int.reduceLE, arr_pos, arr_neg, ]
  ·rintro o rfl
   rw [List.take_length]
   simp (contextual := true) (maxSteps := 1000000) (disch := omega) only [↓Sd, ↓So, ↓Sk, ↓den, ↓denA, Sa, Sb, Sc, Se, O1.d, O2.d, O3.d, cmI, arI, envOf, putN, ↓reduceIte, Nat.reduceLT, Nat.reduceSub, Nat.reduceAdd, Int.reduceAdd, Int.reduceEq, Int.reduceLT, Int.reduceLE, arr_pos, arr_neg, ]
def LtrsOk (W : List (List Int)) (n : Nat) (wl : Nat → Nat → Bool) : Prop := ∀ i, i < W.length → (W.getD i []).length = n ∧ ∀ j, j < n → (W.getD i []).getD j 0 = bt (wl i j)
noncomputable def rowsT (l : List Tm) (wl : Nat → Nat → Bool) (s m k : Nat) : List (List Int) := (pl l wl s m k).map (bR m)
theorem rowsT_len {l : List Tm} {wl : Nat → Nat → Bool} {s m k : Nat} : (rowsT l wl s m k).length = k := by rw [rowsT, List.length_map, pl_len]
def pf (l : List Tm) (wl : Nat → Nat → Bool) (s m k a i : Nat) : Bool := (pl l wl s m k).getD a (fun _ => false) i
theorem rowsT_get {l : List Tm} {wl : Nat → Nat → Bool} {s m k a : Nat} (h : a < k) : (rowsT l wl s m k).getD a [] = bR m (pf l wl s m k a) := by
 rw [rowsT, getD_lt (by rw [List.length_map, pl_len]; exact h), List.getElem_map]
 congr 1
 funext i
 rw [pf, getD_lt (by rw [pl_len]; exact h)]
set_option maxHeartbeats 4000000 in
theorem C_impl_timesOn (l : List Tm) (n : Nat) (S R : List (List Int)) (wl : Nat → Nat → Bool) (h : tV l n) (hR : 0 < R.length) (hm : S.length + R.length ≤ 60) (hw : LtrsOk (S ++ R) n wl) (Q : List AV → Prop) :
  mc.C f_impl_timesOn [⟨L T4, l⟩, ⟨L (L I), S⟩, ⟨L (L I), R⟩] Q = Q [⟨L (L I), rowsT l wl S.length (S.length + R.length) l.length⟩] := by
 refine Mc.Ends.c (mc.ends F_impl_timesOn ?_)
 have hll := h.2.1
 have hW : ([S] ++ [R]).flatten = S ++ R := by simp
 obtain ⟨W, hWe⟩ : ∃ W, S ++ R = W := ⟨_, rfl⟩
 obtain ⟨s, hs⟩ : ∃ s, S.length = s := ⟨_, rfl⟩
 obtain ⟨m, hm2⟩ : ∃ m, s + R.length = m := ⟨_, rfl⟩
 have hWl : W.length = m := by rw [← hWe, List.length_append, hs, hm2]
 rw [hWe] at hW hw
 rw [hs, hm2] at hm ⊢
 have hsm : s < m := by omega
 have hw1 : ∀ i, i < m → (W.getD i []).length = n := fun i hi => (hw i (by omega)).1
 have hw2 : ∀ i j, i < m → j < n → (W.getD i []).getD j 0 = bt (wl i j) := fun i j hi hj => (hw i (by omega)).2 j hj
 have hn4 := h.1
 simp (contextual := true) (maxSteps := 1000000) (disch := omega) only [↓Sd, ↓So, ↓Sk, ↓den, ↓denA, Sa, Sb, Sc, Se, O1.d, O2.d, O3.d, cmI, arI, envOf, putN, ↓reduceIte, Nat.reduceLT, Nat.reduceSub, Nat.reduceAdd, Int.reduceAdd, Int.reduceEq, Int.reduceLT, Int.reduceLE, arr_pos, arr_neg, tr_impl_timesOn, C_slices_Concat2 ([S] ++ [R]) (by rw [hW]; omega) (by simp), hW, hWl]
 refine mc.lp_for Unit (fun k _ => [⟨L T4, l⟩, ⟨I, (l.length : Int)⟩, ⟨I, (k : Int)⟩, ⟨L (L I), W⟩, ⟨I, (m : Int)⟩, ⟨L (L I), S⟩, ⟨L (L I), rowsT l wl s m k ++ List.replicate (l.length - k) []⟩]) (fun _ _ => True) l.length 0 () _ ?_ (Nat.zero_le _) trivial ?_ ?_
 ·simp [rowsT, pl]
 ·rintro k - hk -
  obtain ⟨t, ht⟩ : ∃ t, l.getD k (0, 0, 0, 0) = t := ⟨_, rfl⟩
  have hto := h.2.2 k hk
  have htz : l.getD k zT = t := ht
  rw [htz] at hto
  obtain ⟨RW, hRW⟩ : ∃ RW, rowsT l wl s m k ++ List.replicate (l.length - k) [] = RW := ⟨_, rfl⟩
  have hRl : RW.length = l.length := by rw [← hRW, List.length_append, rowsT_len, List.length_replicate]; omega
  have hRg : ∀ a, a < k → RW.getD a [] = bR m (pf l wl s m k a) := fun a ha => by
   rw [← hRW, List.getD_eq_getElem?_getD, List.getElem?_append_left (by rw [rowsT_len]; exact ha), ← List.getD_eq_getElem?_getD, rowsT_get ha]
  have hnx : RW.set k (bR m (rwB t (pf l wl s m k) wl s m)) = rowsT l wl s m (k + 1) ++ List.replicate (l.length - (k + 1)) [] := by
   rw [← hRW, show l.length - k = (l.length - (k + 1)) + 1 by omega]
   have := set_pad (l := rowsT l wl s m k) (k := l.length - (k + 1)) (x := bR m (rwB t (pf l wl s m k) wl s m)) (z := ([] : List Int))
   rw [rowsT_len] at this
   rw [this]
   congr 1
   rw [rowsT, rowsT, pl, List.map_append, htz]
   rfl
  obtain ⟨hp, hhp⟩ : ∃ hp, hop t (pf l wl s m k) wl s m = hp := ⟨_, rfl⟩
  rw [hRW]
  have hrw : rwB t (pf l wl s m k) wl s m = xs hp s m (decide (t.1 = 7)) 2 := by rw [← hhp]; rfl
  obtain ⟨st, hst⟩ : ∃ st, decide (t.1 = 7) = st := ⟨_, rfl⟩
  rw [hst] at hrw
  simp (contextual := true) (maxSteps := 1000000) (disch := omega) only [↓Sd, ↓So, ↓Sk, ↓den, ↓denA, Sa, Sb, Sc, Se, O1.d, O2.d, O3.d, cmI, arI, envOf, putN, ↓reduceIte, Nat.reduceLT, Nat.reduceSub, Nat.reduceAdd, Int.reduceAdd, Int.reduceEq, Int.reduceLT, Int.reduceLE, arr_pos, arr_neg, ht]
  refine mc.wp_join (fun us => us = [⟨I, (k : Int)⟩, ⟨I, bt st⟩, ⟨L T4, l⟩, ⟨I, (l.length : Int)⟩, ⟨I, (k : Int)⟩, ⟨L (L I), W⟩, ⟨I, (m : Int)⟩, ⟨L (L I), S⟩, ⟨L (L I), RW⟩, ⟨L I, List.replicate m (0 : Int)⟩, ⟨I, t.1⟩, ⟨I, t.2.1⟩, ⟨I, t.2.2.1⟩, ⟨I, t.2.2.2⟩]) ?_ ?_
  ·simp (contextual := true) (maxSteps := 1000000) (disch := omega) only [↓Sd, ↓So, ↓Sk, ↓den, ↓denA, Sa, Sb, Sc, Se, O1.d, O2.d, O3.d, cmI, arI, envOf, putN, ↓reduceIte, Nat.reduceLT, Nat.reduceSub, Nat.reduceAdd, Int.reduceAdd, Int.reduceEq, Int.reduceLT, Int.reduceLE, arr_pos, arr_neg, ht]
   refine ⟨fun g => ?_, fun g => ?_⟩
   ·rw [← hst, decide_eq_true g]; rfl
   ·rw [← hst, decide_eq_false g]; rfl
  rintro us rfl
  simp (contextual := true) (maxSteps := 1000000) (disch := omega) only [↓Sd, ↓So, ↓Sk, ↓den, ↓denA, Sa, Sb, Sc, Se, O1.d, O2.d, O3.d, cmI, arI, envOf, putN, ↓reduceIte, Nat.reduceLT, Nat.reduceSub, Nat.reduceAdd, Int.reduceAdd, Int.reduceEq, Int.reduceLT, Int.reduceLE, arr_pos, arr_neg, List.length_replicate]
  refine mc.lp_for Unit (fun i _ => [⟨I, (k : Int)⟩, ⟨I, bt st⟩, ⟨L T4, l⟩, ⟨I, (l.length : Int)⟩, ⟨I, (k : Int)⟩, ⟨I, (m : Int)⟩, ⟨I, (i : Int)⟩, ⟨L (L I), W⟩, ⟨I, (m : Int)⟩, ⟨L (L I), S⟩, ⟨L (L I), RW⟩, ⟨L I, tab (fun k => if k < i then bt st else 0) m⟩, ⟨I, t.1⟩, ⟨I, t.2.1⟩, ⟨I, t.2.2.1⟩, ⟨I, t.2.2.2⟩]) (fun _ _ => True) m 0 () _ ?_ (Nat.zero_le _) trivial ?_ ?_
  ·have : List.replicate m (0 : Int) = tab (fun k => if k < 0 then bt st else 0) m := by rw [rep_tab]; exact tab_congr fun k _ => by rw [if_neg (Nat.not_lt_zero k)]
   rw [this]; rfl
  ·rintro i - hi -
   simp (contextual := true) (maxSteps := 1000000) (disch := omega) only [↓Sd, ↓So, ↓Sk, ↓den, ↓denA, Sa, Sb, Sc, Se, O1.d, O2.d, O3.d, cmI, arI, envOf, putN, ↓reduceIte, Nat.reduceLT, Nat.reduceSub, Nat.reduceAdd, Int.reduceAdd, Int.reduceEq, Int.reduceLT, Int.reduceLE, arr_pos, arr_neg, tab_len, tab_set']
   refine tab_congr fun k _ => ?_
   by_cases e : k = i
   ·rw [if_pos e, if_pos (by omega)]
   ·rw [if_neg e]
    by_cases e2 : k < i
    ·rw [if_pos e2, if_pos (by omega)]
    ·rw [if_neg e2, if_neg (by omega)]
  rintro - -
  have hx0 : tab (fun k => if k < m then bt st else 0) m = bR m (xs hp s m st 0) := tab_congr fun k hk => if_pos hk
  rw [hx0]
  simp (contextual := true) (maxSteps := 1000000) (disch := omega) only [↓Sd, ↓So, ↓Sk, ↓den, ↓denA, Sa, Sb, Sc, Se, O1.d, O2.d, O3.d, cmI, arI, envOf, putN, ↓reduceIte, Nat.reduceLT, Nat.reduceSub, Nat.reduceAdd, Int.reduceAdd, Int.reduceEq, Int.reduceLT, Int.reduceLE, arr_pos, arr_neg, ]
  refine mc.lp_for Unit (fun p _ => [⟨I, (k : Int)⟩, ⟨L T4, l⟩, ⟨I, (l.length : Int)⟩, ⟨I, (k : Int)⟩, ⟨I, (p : Int)⟩, ⟨L (L I), W⟩, ⟨I, (m : Int)⟩, ⟨L (L I), S⟩, ⟨L (L I), RW⟩, ⟨L I, bR m (xs hp s m st p)⟩, ⟨I, t.1⟩, ⟨I, t.2.1⟩, ⟨I, t.2.2.1⟩, ⟨I, t.2.2.2⟩]) (fun _ _ => True) 2 0 () _ rfl (Nat.zero_le _) trivial ?_ ?_
  ·rintro p - hp2 -
   obtain ⟨x, hx⟩ : ∃ x, xs hp s m st p = x := ⟨_, rfl⟩
   have hx1 : xs hp s m st (p + 1) = gq hp m (x s) := by rw [xs, hx]
   rw [hx, hx1]
   obtain ⟨w, hwx⟩ : ∃ w, x s = w := ⟨_, rfl⟩
   rw [hwx]
   simp (contextual := true) (maxSteps := 1000000) (disch := omega) only [↓Sd, ↓So, ↓Sk, ↓den, ↓denA, Sa, Sb, Sc, Se, O1.d, O2.d, O3.d, cmI, arI, envOf, putN, ↓reduceIte, Nat.reduceLT, Nat.reduceSub, Nat.reduceAdd, Int.reduceAdd, Int.reduceEq, Int.reduceLT, Int.reduceLE, arr_pos, arr_neg, ]
   refine mc.lp_down Unit (fun i _ => [⟨I, (k : Int)⟩, ⟨I, (i : Int) - 1⟩, ⟨L T4, l⟩, ⟨I, (l.length : Int)⟩, ⟨I, (k : Int)⟩, ⟨I, (p : Int)⟩, ⟨L (L I), W⟩, ⟨I, (m : Int)⟩, ⟨L (L I), S⟩, ⟨L (L I), RW⟩, ⟨L I, bR m (fun k => if i ≤ k then gq hp m w k else x k)⟩, ⟨I, t.1⟩, ⟨I, t.2.1⟩, ⟨I, t.2.2.1⟩, ⟨I, t.2.2.2⟩]) (fun i _ => i ≤ m) m () _ ?_ (Nat.le_refl _) ?_ ?_
   ·have : bR m x = bR m (fun k => if m ≤ k then gq hp m w k else x k) := tab_congr fun k hk => by
     dsimp only
     rw [if_neg (by omega)]
    rw [← this]
   ·rintro i - him
    have hi : i < m := by omega
    have him1 : i ≤ m := by omega
    have hset := bR_set (hp := hp) (w := w) (x := x) hi
    have hgi : gq hp m w i = hop t (pf l wl s m k) wl s m i (gq hp m w (i + 1)) := by rw [gq_s hi, hhp]
    have hbe : i + 1 = m → (bR m (fun k => if i + 1 ≤ k then gq hp m w k else x k)).getD s 0 = bt (gq hp m w (i + 1)) := fun e => by
     rw [bR_get hsm]
     rw [if_neg (by omega), e, gq_m, hwx]
    have hbn : i + 1 < m → (bR m (fun k => if i + 1 ≤ k then gq hp m w k else x k)).getD (i + 1) 0 = bt (gq hp m w (i + 1)) := fun e => by
     rw [bR_get e]
     rw [if_pos (Nat.le_refl _)]
    obtain ⟨row, hrow⟩ : ∃ row, bR m (fun k => if i + 1 ≤ k then gq hp m w k else x k) = row := ⟨_, rfl⟩
    have hrl : row.length = m := by rw [← hrow, bR_len]
    rw [hrow] at hset hbe hbn ⊢
    rw [← hset]
    obtain ⟨y, hy⟩ : ∃ y, gq hp m w (i + 1) = y := ⟨_, rfl⟩
    rw [hy] at hgi hbe hbn
    rw [hgi]
    clear hset hgi hx0 hx1 hrw hnx hhp hRW
    rcases hto with ⟨ho, -⟩ | ⟨ho, hnn, -⟩ | ⟨ho, -, hA, hB, -⟩
    ·simp (contextual := true) (maxSteps := 1000000) (disch := omega) only [↓Sd, ↓So, ↓Sk, ↓den, ↓denA, Sa, Sb, Sc, Se, O1.d, O2.d, O3.d, cmI, arI, envOf, putN, ↓reduceIte, Nat.reduceLT, Nat.reduceSub, Nat.reduceAdd, Int.reduceAdd, Int.reduceEq, Int.reduceLT, Int.reduceLE, arr_pos, arr_neg, ↓wpJoin, ho, hrl]
     exact ⟨by rw [hop, if_pos ho]; rfl, him1⟩
    ·obtain ⟨a, ha⟩ : ∃ a : Nat, t.2.1 = a := ⟨t.2.1.toNat, by omega⟩
     rw [ha] at hnn ⊢
     simp (contextual := true) (maxSteps := 1000000) (disch := omega) only [↓Sd, ↓So, ↓Sk, ↓den, ↓denA, Sa, Sb, Sc, Se, O1.d, O2.d, O3.d, cmI, arI, envOf, putN, ↓reduceIte, Nat.reduceLT, Nat.reduceSub, Nat.reduceAdd, Int.reduceAdd, Int.reduceEq, Int.reduceLT, Int.reduceLE, arr_pos, arr_neg, ↓wpJoin, ho, hrl, hWl, hw1 i hi, hw2 i a hi (by omega)]
     exact ⟨by rw [hop, if_neg (by omega), if_pos ho, ha, Int.toNat_natCast], him1⟩
    ·obtain ⟨a, ha⟩ : ∃ a : Nat, t.2.2.1 = a := ⟨t.2.2.1.toNat, by omega⟩
     obtain ⟨b, hb⟩ : ∃ b : Nat, t.2.2.2 = b := ⟨t.2.2.2.toNat, by omega⟩
     have hak : a < k := by omega
     have hbk : b < k := by omega
     have ga := bR_get (m := m) (ρ := pf l wl s m k a) hi
     have gb := bR_get (m := m) (ρ := pf l wl s m k b) hi
     have h0 : ¬ t.1 = 0 := by omega
     have h1 : ¬ t.1 = 1 := by omega
     rw [ha] at hA ⊢
     rw [hb] at hB ⊢
     have hcase : t.1 = 2 ∨ t.1 = 3 ∨ t.1 = 4 ∨ t.1 = 5 ∨ t.1 = 6 ∨ t.1 = 7 := by omega
     rw [hop, if_neg h0, if_neg h1, ha, hb, Int.toNat_natCast, Int.toNat_natCast]
     rcases hcase with ho | ho | ho | ho | ho | ho
     ·rw [if_pos ho]
      simp (contextual := true) (maxSteps := 1000000) (disch := omega) only [↓Sd, ↓So, ↓Sk, ↓den, ↓denA, Sa, Sb, Sc, Se, O1.d, O2.d, O3.d, cmI, arI, envOf, putN, ↓reduceIte, Nat.reduceLT, Nat.reduceSub, Nat.reduceAdd, Int.reduceAdd, Int.reduceEq, Int.reduceLT, Int.reduceLE, arr_pos, arr_neg, ↓wpJoin, ho, hrl, hRl, hRg a hak, hRg b hbk, bR_len, ga, gb, bt_not]
      exact him1
     ·rw [if_neg (by omega), if_pos ho]
      simp (contextual := true) (maxSteps := 1000000) (disch := omega) only [↓Sd, ↓So, ↓Sk, ↓den, ↓denA, Sa, Sb, Sc, Se, O1.d, O2.d, O3.d, cmI, arI, envOf, putN, ↓reduceIte, Nat.reduceLT, Nat.reduceSub, Nat.reduceAdd, Int.reduceAdd, Int.reduceEq, Int.reduceLT, Int.reduceLE, arr_pos, arr_neg, ↓wpJoin, ho, hrl, hRl, hRg a hak, hRg b hbk, bR_len, ga, gb, bt_and]
      exact him1
     ·rw [if_neg (by omega), if_neg (by omega), if_pos ho]
      simp (contextual := true) (maxSteps := 1000000) (disch := omega) only [↓Sd, ↓So, ↓Sk, ↓den, ↓denA, Sa, Sb, Sc, Se, O1.d, O2.d, O3.d, cmI, arI, envOf, putN, ↓reduceIte, Nat.reduceLT, Nat.reduceSub, Nat.reduceAdd, Int.reduceAdd, Int.reduceEq, Int.reduceLT, Int.reduceLE, arr_pos, arr_neg, ↓wpJoin, ho, hrl, hRl, hRg a hak, hRg b hbk, bR_len, ga, gb, bt_or]
      exact him1
     ·rw [if_neg (by omega), if_neg (by omega), if_neg (by omega), if_pos ho]
      simp (contextual := true) (maxSteps := 1000000) (disch := omega) only [↓Sd, ↓So, ↓Sk, ↓den, ↓denA, Sa, Sb, Sc, Se, O1.d, O2.d, O3.d, cmI, arI, envOf, putN, ↓reduceIte, Nat.reduceLT, Nat.reduceSub, Nat.reduceAdd, Int.reduceAdd, Int.reduceEq, Int.reduceLT, Int.reduceLE, arr_pos, arr_neg, ↓wpJoin, ho, hrl, hRl, hRg a hak, hRg b hbk, bR_len, ga, gb]
      refine ⟨fun g => ?_, fun g => ?_⟩
      ·have e : i + 1 = m := by omega
       have e1 : m - 1 = i := by omega
       rw [if_pos e, e1, hs, bR_get hsm]
       exact ⟨⟨(by show ((m : Int) - 1 - 1 = (i : Int) - 1); omega), rfl⟩, him1⟩
      ·have e : ¬ i + 1 = m := by omega
       have e1 : ((i : Int) + 1).toNat = i + 1 := by omega
       rw [if_neg e, e1, bR_get (by omega : i + 1 < m)]
       exact ⟨rfl, him1⟩
     ·rw [if_neg (by omega), if_neg (by omega), if_neg (by omega), if_neg (by omega), if_pos ho]
      simp (contextual := true) (maxSteps := 1000000) (disch := omega) only [↓Sd, ↓So, ↓Sk, ↓den, ↓denA, Sa, Sb, Sc, Se, O1.d, O2.d, O3.d, cmI, arI, envOf, putN, ↓reduceIte, Nat.reduceLT, Nat.reduceSub, Nat.reduceAdd, Int.reduceAdd, Int.reduceEq, Int.reduceLT, Int.reduceLE, arr_pos, arr_neg, ↓wpJoin, ho, hrl, hRl, hRg a hak, hRg b hbk, bR_len, ga, gb, bt_and, bt_or]
      refine ⟨fun g => ?_, fun g => ?_⟩
      ·have e : i + 1 = m := by omega
       have e1 : m - 1 = i := by omega
       rw [e1, hs, hbe e, ga, gb, bt_and, bt_or]
       exact ⟨⟨(by show ((m : Int) - 1 - 1 = (i : Int) - 1); omega), rfl⟩, him1⟩
      ·have e1 : ((i : Int) + 1).toNat = i + 1 := by omega
       rw [e1, hbn (by omega), bt_and, bt_or]
       exact ⟨rfl, him1⟩
     ·rw [if_neg (by omega), if_neg (by omega), if_neg (by omega), if_neg (by omega), if_neg (by omega)]
      simp (contextual := true) (maxSteps := 1000000) (disch := omega) only [↓Sd, ↓So, ↓Sk, ↓den, ↓denA, Sa, Sb, Sc, Se, O1.d, O2.d, O3.d, cmI, arI, envOf, putN, ↓reduceIte, Nat.reduceLT, Nat.reduceSub, Nat.reduceAdd, Int.reduceAdd, Int.reduceEq, Int.reduceLT, Int.reduceLE, arr_pos, arr_neg, ↓wpJoin, ho, hrl, hRl, hRg a hak, hRg b hbk, bR_len, ga, gb, bt_and, bt_or]
      refine ⟨fun g => ?_, fun g => ?_⟩
      ·have e : i + 1 = m := by omega
       have e1 : m - 1 = i := by omega
       rw [e1, hs, hbe e, ga, gb, bt_or, bt_and]
       exact ⟨⟨(by show ((m : Int) - 1 - 1 = (i : Int) - 1); omega), rfl⟩, him1⟩
      ·have e1 : ((i : Int) + 1).toNat = i + 1 := by omega
       rw [e1, hbn (by omega), bt_or, bt_and]
       exact ⟨rfl, him1⟩
   ·rintro - -
    simp (contextual := true) (maxSteps := 1000000) (disch := omega) only [↓Sd, ↓So, ↓Sk, ↓den, ↓denA, Sa, Sb, Sc, Se, O1.d, O2.d, O3.d, cmI, arI, envOf, putN, ↓reduceIte, Nat.reduceLT, Nat.reduceSub, Nat.reduceAdd, Int.reduceAdd, Int.reduceEq, Int.reduceLT, Int.reduceLE, arr_pos, arr_neg, ]
    have : bR m (fun k => if 0 ≤ k then gq hp m w k else x k) = bR m (gq hp m w) := tab_congr fun k _ => by
     dsimp only
     rw [if_pos (Nat.zero_le _)]
    rw [this]
  ·rintro - -
   have e2 : bR m (xs hp s m st 2) = bR m (rwB t (pf l wl s m k) wl s m) := by rw [hrw]
   rw [e2]
   simp (contextual := true) (maxSteps := 1000000) (disch := omega) only [↓Sd, ↓So, ↓Sk, ↓den, ↓denA, Sa, Sb, Sc, Se, O1.d, O2.d, O3.d, cmI, arI, envOf, putN, ↓reduceIte, Nat.reduceLT, Nat.reduceSub, Nat.reduceAdd, Int.reduceAdd, Int.reduceEq, Int.reduceLT, Int.reduceLE, arr_pos, arr_neg, hRl, hnx]
 ·rintro - -
  simp (contextual := true) (maxSteps := 1000000) (disch := omega) only [↓Sd, ↓So, ↓Sk, ↓den, ↓denA, Sa, Sb, Sc, Se, O1.d, O2.d, O3.d, cmI, arI, envOf, putN, ↓reduceIte, Nat.reduceLT, Nat.reduceSub, Nat.reduceAdd, Int.reduceAdd, Int.reduceEq, Int.reduceLT, Int.reduceLE, arr_pos, arr_neg, ]
  simp
theorem hop_low {t : Tm} {P wl : Nat → Nat → Bool} {s m i : Nat} {x y : Bool} (h : 0 ≤ t.1 ∧ t.1 < 6) : hop t P wl s m i x = hop t P wl s m i y := by
 unfold hop
 rw [if_neg (show ¬ t.1 = 6 by omega)]
 by_cases h0 : t.1 = 0
 ·simp [h0]
 ·by_cases h1 : t.1 = 1
  ·simp [h1]
  ·by_cases h2 : t.1 = 2
   ·simp [h2]
   ·by_cases h3 : t.1 = 3
    ·simp [h3]
    ·by_cases h4 : t.1 = 4
     ·simp [h4]
     ·by_cases h5 : t.1 = 5
      ·simp [h5]
      ·omega
theorem rwB_low {t : Tm} {P wl : Nat → Nat → Bool} {s m i : Nat} {x : Bool} (h : 0 ≤ t.1 ∧ t.1 < 6) (hi : i < m) : rwB t P wl s m i = hop t P wl s m i x := by
 rw [rwB, gq_s hi]
 exact hop_low h
theorem hop_mono {t : Tm} {P wl : Nat → Nat → Bool} {s m i : Nat} (h : hop t P wl s m i false = true) : hop t P wl s m i true = true := by
 unfold hop at h ⊢
 repeat' split at h
 all_goals simp_all
theorem gd_mono {hp : Nat → Bool → Bool} {m : Nat} (hm : ∀ i, hp i false = true → hp i true = true) : ∀ {k : Nat}, gd hp m false k = true → gd hp m true k = true
 | 0, h => rfl
 | k + 1, h => by
  rw [gd] at h ⊢
  cases h1 : gd hp m false k with
  | true => rw [gd_mono hm h1]; rw [h1] at h; exact h
  | false =>
   rw [h1] at h
   cases gd hp m true k with
   | true => exact hm _ h
   | false => exact h
theorem xs_fix {t : Tm} {P wl : Nat → Nat → Bool} {s m : Nat} (h : t.1 = 6 ∨ t.1 = 7) : ∀ p, xs (hop t P wl s m) s m (decide (t.1 = 7)) (p + 1) s = xs (hop t P wl s m) s m (decide (t.1 = 7)) 1 s
 | 0 => rfl
 | p + 1 => by
  have ih := xs_fix (P := P) (wl := wl) (s := s) (m := m) h p
  show gq (hop t P wl s m) m (xs (hop t P wl s m) s m (decide (t.1 = 7)) (p + 1) s) s = _
  rw [ih]
  have hm : gq (hop t P wl s m) m false s = true → gq (hop t P wl s m) m true s = true := gd_mono fun i => hop_mono
  show gq (hop t P wl s m) m (gq (hop t P wl s m) m (decide (t.1 = 7)) s) s = gq (hop t P wl s m) m (decide (t.1 = 7)) s
  rcases h with h | h
  ·rw [show decide (t.1 = 7) = false by rw [decide_eq_false]; omega]
   cases h1 : gq (hop t P wl s m) m false s with
   | false => exact h1
   | true => exact hm h1
  ·rw [decide_eq_true h]
   cases h1 : gq (hop t P wl s m) m true s with
   | true => exact h1
   | false =>
    cases h2 : gq (hop t P wl s m) m false s with
    | false => rfl
    | true => rw [hm h2] at h1; cases h1
theorem xs_end {t : Tm} {P wl : Nat → Nat → Bool} {s m p : Nat} (h : t.1 = 6 ∨ t.1 = 7) : xs (hop t P wl s m) s m (decide (t.1 = 7)) (p + 2) = rwB t P wl s m := by
 show gq (hop t P wl s m) m (xs (hop t P wl s m) s m (decide (t.1 = 7)) (p + 1) s) = _
 rw [xs_fix h]
 rfl
theorem C_spec_l20Next (i s m : Nat) (hm : m ≤ 1000) (hi : i < m) (Q : List AV → Prop) : mc.C f_spec_l20Next [⟨I, (i : Int)⟩, ⟨I, (s : Int)⟩, ⟨I, (m : Int)⟩] Q = Q [⟨I, ((if i + 1 = m then s else i + 1 : Nat) : Int)⟩] := by
 refine Mc.Ends.c (mc.ends F_spec_l20Next ?_)
 simp (contextual := true) (maxSteps := 1000000) (disch := omega) only [↓Sd, ↓So, ↓Sk, ↓den, ↓denA, Sa, Sb, Sc, Se, O1.d, O2.d, O3.d, cmI, arI, envOf, putN, ↓reduceIte, Nat.reduceLT, Nat.reduceSub, Nat.reduceAdd, Int.reduceAdd, Int.reduceEq, Int.reduceLT, Int.reduceLE, arr_pos, arr_neg, tr_spec_l20Next]
 refine ⟨fun h => ?_, fun h => ?_⟩
 ·rw [if_neg (by omega)]; rfl
 ·rw [if_pos (by omega)]
end Go.Proofs.YthapopegchnhlaaGreat
