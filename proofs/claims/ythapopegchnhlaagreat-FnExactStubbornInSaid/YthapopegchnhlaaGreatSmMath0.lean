/- What the trees come to: plain mathematics; no condition. -/
import Derived.Test.YthapopegchnhlaaGreatSmTrees0
namespace Go.Proofs.YthapopegchnhlaaGreat
open Go Go.Sm Go.Sm.Q
set_option linter.unusedSimpArgs false
set_option linter.unusedVariables false
abbrev Tm := Int × Int × Int × Int
abbrev Vr := Int × Int × Int
abbrev Ru := List Tm × List Int × List (List Tm)
abbrev Sy := List Vr × List Ru
def Few {α : Type} (l : List α) : Prop := l.length ≤ 1048576
theorem getD_lt {α : Type} {l : List α} {i : Nat} {d : α} (h : i < l.length) : l.getD i d = l[i] := by simp [h]
theorem getD_mem {α : Type} {l : List α} {i : Nat} {d : α} (h : i < l.length) : l.getD i d ∈ l := by rw [getD_lt h]; exact List.getElem_mem h
theorem set_next {α : Type} (l m : List α) (z : α) (i : Nat) (hi : i < l.length) : (l.take i ++ List.replicate (l.length - i) z).set i (l.getD i z) = l.take (i + 1) ++ List.replicate (l.length - (i + 1)) z := by
 apply List.ext_getElem
 ·simp; omega
 ·intro j h1 h2
  simp only [List.length_set, List.length_append, List.length_take, List.length_replicate] at h1
  rw [List.getElem_set]
  by_cases hj : i = j
  ·subst hj; simp [List.getElem_append, hi]; omega
  ·rw [if_neg hj, List.getElem_append, List.getElem_append]
   simp only [List.length_take, List.getElem_take, List.getElem_replicate]
   by_cases h3 : j < i
   ·rw [dif_pos (by omega), dif_pos (by omega)]
   ·rw [dif_neg (by omega), dif_neg (by omega)]
theorem lp_copy {M : Mc} (t : Ty) {b : Tr} {Q : Out → Prop} (l : List t.D)
  (hb : ∀ (i : Nat) (s : List t.D), i < l.length → s.length = l.length → M.wp b (envOf [⟨L t, l⟩, ⟨I, (i : Int)⟩, ⟨L t, s⟩]) (onJ (fun us => us = [⟨L t, l⟩, ⟨I, (i : Int) + 1⟩, ⟨L t, s.set i (l.getD i t.z)⟩]) Q))
  (he : M.wp b (envOf [⟨L t, l⟩, ⟨I, (l.length : Int)⟩, ⟨L t, l⟩]) (onJ (fun _ => False) Q)) : M.LP b [⟨L t, l⟩, ⟨I, (0 : Int)⟩, ⟨L t, List.replicate l.length t.z⟩] Q := by
 refine M.lp_for (List t.D) (fun i s => [⟨L t, l⟩, ⟨I, (i : Int)⟩, ⟨L t, s⟩]) (fun i s => s = l.take i ++ List.replicate (l.length - i) t.z) l.length 0 (List.replicate l.length t.z) _ rfl (Nat.zero_le _) (by simp) ?_ ?_
 ·rintro i s hi rfl
  refine M.wp_mono _ _ _ _ (onJ_mono (fun us hu => ?_) fun _ h => h) (hb i _ hi (by simp; omega))
  exact ⟨_, by rw [hu]; rfl, by rw [set_next l l t.z i hi]⟩
 ·rintro s rfl
  simpa using he
theorem lp_all {M : Mc} {b : Tr} {Q : Out → Prop} (mk : Nat → List AV) (p : Nat → Prop) (N : Nat) (us : List AV) (hus : us = mk 0)
  (hb : ∀ i, i < N → M.wp b (envOf (mk i)) (onJ (fun us => us = mk (i + 1) ∧ p i) Q))
  (he : (∀ i, i < N → p i) → M.wp b (envOf (mk N)) (onJ (fun _ => False) Q)) : M.LP b us Q := by
 refine M.lp_for Unit (fun i _ => mk i) (fun i _ => ∀ j, j < i → p j) N 0 () us hus (Nat.zero_le _) (fun j hj => absurd hj (Nat.not_lt_zero _)) ?_ ?_
 ·rintro i - hi hp
  refine M.wp_mono _ _ _ _ (onJ_mono (fun us hu => ⟨(), hu.1, fun j hj => ?_⟩) fun o h => h) (hb i hi)
  rcases Nat.lt_succ_iff_lt_or_eq.1 hj with h | rfl
  ·exact hp j h
  ·exact hu.2
 ·rintro - hp
  exact he hp
def Lt63 {α : Type} (l : List α) : Prop := l.length ≤ 9223372036854775807
theorem sz_VarS (l : List Vr) (n : Int) (hn : 0 ≤ n ∧ n ≤ 1048576) (hl : Lt63 l) {Q : List AV → Prop} (h : ∀ k : Int, k ≤ n → (0 ≤ k → Few l) → Q [⟨I, k⟩]) : mc.C f_laws_szVarS [⟨L V3, l⟩, ⟨I, n⟩] Q := by
 unfold Lt63 at hl
 rw [Mc.Ends.c (outs := [⟨I, if n - l.length < 0 then -1 else n - l.length⟩]) (mc.ends F_laws_szVarS (by simp (contextual := true) (maxSteps := 1000000) (disch := omega) only [↓Sd, ↓So, ↓Sk, ↓den, ↓denA, Sa, Sb, Sc, Se, O1.d, O2.d, O3.d, cmI, arI, envOf, putN, ↓reduceIte, Nat.reduceLT, Nat.reduceSub, Nat.reduceAdd, Int.reduceAdd, Int.reduceEq, Int.reduceLT, Int.reduceLE, arr_pos, arr_neg, tr_laws_szVarS] <;> grind))]
 exact h _ (by split <;> omega) (by unfold Few; split <;> omega)
theorem sz_TermS (l : List Tm) (n : Int) (hn : 0 ≤ n ∧ n ≤ 1048576) (hl : Lt63 l) {Q : List AV → Prop} (h : ∀ k : Int, k ≤ n → (0 ≤ k → Few l) → Q [⟨I, k⟩]) : mc.C f_laws_szTermS [⟨L T4, l⟩, ⟨I, n⟩] Q := by
 unfold Lt63 at hl
 rw [Mc.Ends.c (outs := [⟨I, if n - l.length < 0 then -1 else n - l.length⟩]) (mc.ends F_laws_szTermS (by simp (contextual := true) (maxSteps := 1000000) (disch := omega) only [↓Sd, ↓So, ↓Sk, ↓den, ↓denA, Sa, Sb, Sc, Se, O1.d, O2.d, O3.d, cmI, arI, envOf, putN, ↓reduceIte, Nat.reduceLT, Nat.reduceSub, Nat.reduceAdd, Int.reduceAdd, Int.reduceEq, Int.reduceLT, Int.reduceLE, arr_pos, arr_neg, tr_laws_szTermS] <;> grind))]
 exact h _ (by split <;> omega) (by unfold Few; split <;> omega)
theorem sz_IntS (l : List Int) (n : Int) (hn : 0 ≤ n ∧ n ≤ 1048576) (hl : Lt63 l) {Q : List AV → Prop} (h : ∀ k : Int, k ≤ n → (0 ≤ k → Few l) → Q [⟨I, k⟩]) : mc.C f_laws_szIntS [⟨L I, l⟩, ⟨I, n⟩] Q := by
 unfold Lt63 at hl
 rw [Mc.Ends.c (outs := [⟨I, if n - l.length < 0 then -1 else n - l.length⟩]) (mc.ends F_laws_szIntS (by simp (contextual := true) (maxSteps := 1000000) (disch := omega) only [↓Sd, ↓So, ↓Sk, ↓den, ↓denA, Sa, Sb, Sc, Se, O1.d, O2.d, O3.d, cmI, arI, envOf, putN, ↓reduceIte, Nat.reduceLT, Nat.reduceSub, Nat.reduceAdd, Int.reduceAdd, Int.reduceEq, Int.reduceLT, Int.reduceLE, arr_pos, arr_neg, tr_laws_szIntS] <;> grind))]
 exact h _ (by split <;> omega) (by unfold Few; split <;> omega)
theorem lp_sz {M : Mc} (t : Ty) {b : Tr} (l : List t.D) (n : Int) (P : t.D → Prop) (Q : Out → Prop)
  (hb : ∀ (i : Nat) (k : Int) (X : Int → Prop), i < l.length → 0 ≤ k → k ≤ n → (∀ j : Int, j ≤ k → (0 ≤ j → P (l.getD i t.z)) → X j) → M.wp b (envOf [⟨L t, l⟩, ⟨I, k⟩, ⟨I, (i : Int)⟩]) (onJ (fun us => ∃ j : Int, us = [⟨L t, l⟩, ⟨I, j⟩, ⟨I, (i : Int) + 1⟩] ∧ 0 ≤ j ∧ X j) (fun o => o = .ret [⟨I, (-1 : Int)⟩])))
  (h1 : Q (.ret [⟨I, (-1 : Int)⟩])) (he : ∀ k : Int, 0 ≤ k → k ≤ n → (∀ x ∈ l, P x) → M.wp b (envOf [⟨L t, l⟩, ⟨I, k⟩, ⟨I, (l.length : Int)⟩]) (onJ (fun _ => False) Q)) (hn : 0 ≤ n) : M.LP b [⟨L t, l⟩, ⟨I, n⟩, ⟨I, (0 : Int)⟩] Q := by
 refine M.lp_for Int (fun i k => [⟨L t, l⟩, ⟨I, k⟩, ⟨I, (i : Int)⟩]) (fun i k => 0 ≤ k ∧ k ≤ n ∧ ∀ j, j < i → P (l.getD j t.z)) l.length 0 n _ rfl (Nat.zero_le _) ⟨hn, Int.le_refl _, fun j hj => absurd hj (Nat.not_lt_zero _)⟩ ?_ ?_
 ·rintro i k hi ⟨h0, hk, hp⟩
  refine M.wp_mono _ _ _ _ (onJ_mono (fun us hu => ?_) fun o h => by rw [h]; exact h1) (hb i k (fun j => j ≤ k ∧ (0 ≤ j → P (l.getD i t.z))) hi h0 hk fun j h1 h2 => ⟨h1, h2⟩)
  obtain ⟨j, rfl, hj, h2, h3⟩ := hu
  refine ⟨j, rfl, hj, Int.le_trans h2 hk, fun m hm => ?_⟩
  rcases Nat.lt_succ_iff_lt_or_eq.1 hm with h | rfl
  ·exact hp m h
  ·exact h3 hj
 ·rintro k ⟨h0, hk, hp⟩
  refine he k h0 hk fun x hx => ?_
  obtain ⟨i, hi, rfl⟩ := List.getElem_of_mem hx
  have := hp i hi
  rwa [getD_lt hi] at this
theorem sz_TermSS (l : List (List Tm)) (n : Int) (hn : 0 ≤ n ∧ n ≤ 1048576) (hl : Lt63 l) (hl2 : ∀ x ∈ l, Lt63 x) {Q : List AV → Prop} (h : ∀ k : Int, k ≤ n → (0 ≤ k → Few l ∧ ∀ x ∈ l, Few x) → Q [⟨I, k⟩]) : mc.C f_laws_szTermSS [⟨L (L T4), l⟩, ⟨I, n⟩] Q := by
 unfold Lt63 at hl
 refine mc.c_of F_laws_szTermSS ?_
 simp (contextual := true) (maxSteps := 1000000) (disch := omega) only [↓Sd, ↓So, ↓Sk, ↓den, ↓denA, Sa, Sb, Sc, Se, O1.d, O2.d, O3.d, cmI, arI, envOf, putN, ↓reduceIte, Nat.reduceLT, Nat.reduceSub, Nat.reduceAdd, Int.reduceAdd, Int.reduceEq, Int.reduceLT, Int.reduceLE, arr_pos, arr_neg, tr_laws_szTermSS]
 refine ⟨fun h0 => h _ (by omega) (by omega), fun h0 => ?_⟩
 refine lp_sz (L T4) l _ (fun x => Few x) _ ?_ ?_ ?_ (by omega)
 ·intro i k X hi h0 hk hX
  simp (contextual := true) (maxSteps := 1000000) (disch := omega) only [↓Sd, ↓So, ↓Sk, ↓den, ↓denA, Sa, Sb, Sc, Se, O1.d, O2.d, O3.d, cmI, arI, envOf, putN, ↓reduceIte, Nat.reduceLT, Nat.reduceSub, Nat.reduceAdd, Int.reduceAdd, Int.reduceEq, Int.reduceLT, Int.reduceLE, arr_pos, arr_neg, ]
  refine sz_TermS _ k ⟨h0, by omega⟩ (hl2 _ (getD_mem hi)) fun j h1 h2 => ?_
  simp (contextual := true) (maxSteps := 1000000) (disch := omega) only [↓Sd, ↓So, ↓Sk, ↓den, ↓denA, Sa, Sb, Sc, Se, O1.d, O2.d, O3.d, cmI, arI, envOf, putN, ↓reduceIte, Nat.reduceLT, Nat.reduceSub, Nat.reduceAdd, Int.reduceAdd, Int.reduceEq, Int.reduceLT, Int.reduceLE, arr_pos, arr_neg, ]
  exact fun h => ⟨by omega, hX j h1 h2⟩
 ·exact h _ (by omega) (by omega)
 ·intro k h0 hk hp
  simp (contextual := true) (maxSteps := 1000000) (disch := omega) only [↓Sd, ↓So, ↓Sk, ↓den, ↓denA, Sa, Sb, Sc, Se, O1.d, O2.d, O3.d, cmI, arI, envOf, putN, ↓reduceIte, Nat.reduceLT, Nat.reduceSub, Nat.reduceAdd, Int.reduceAdd, Int.reduceEq, Int.reduceLT, Int.reduceLE, arr_pos, arr_neg, ]
  exact h _ (by omega) fun _ => ⟨by unfold Few; omega, hp⟩
theorem sz_Rule (r : Ru) (n : Int) (hn : 0 ≤ n ∧ n ≤ 1048576) (h1 : Lt63 r.1) (h2 : Lt63 r.2.1) (h3 : Lt63 r.2.2) (h4 : ∀ x ∈ r.2.2, Lt63 x) {Q : List AV → Prop} (h : ∀ k : Int, k ≤ n → (0 ≤ k → Few r.1 ∧ Few r.2.1 ∧ Few r.2.2 ∧ ∀ x ∈ r.2.2, Few x) → Q [⟨I, k⟩]) : mc.C f_laws_szRule [⟨L T4, r.1⟩, ⟨L I, r.2.1⟩, ⟨L (L T4), r.2.2⟩, ⟨I, n⟩] Q := by
 refine mc.c_of F_laws_szRule ?_
 simp (contextual := true) (maxSteps := 1000000) (disch := omega) only [↓Sd, ↓So, ↓Sk, ↓den, ↓denA, Sa, Sb, Sc, Se, O1.d, O2.d, O3.d, cmI, arI, envOf, putN, ↓reduceIte, Nat.reduceLT, Nat.reduceSub, Nat.reduceAdd, Int.reduceAdd, Int.reduceEq, Int.reduceLT, Int.reduceLE, arr_pos, arr_neg, tr_laws_szRule]
 refine sz_TermS _ n hn h1 fun j a1 a2 => ?_
 simp (contextual := true) (maxSteps := 1000000) (disch := omega) only [↓Sd, ↓So, ↓Sk, ↓den, ↓denA, Sa, Sb, Sc, Se, O1.d, O2.d, O3.d, cmI, arI, envOf, putN, ↓reduceIte, Nat.reduceLT, Nat.reduceSub, Nat.reduceAdd, Int.reduceAdd, Int.reduceEq, Int.reduceLT, Int.reduceLE, arr_pos, arr_neg, ]
 refine ⟨fun _ => h _ (by omega) (by omega), fun h0 => ?_⟩
 refine sz_IntS _ j (by omega) h2 fun k b1 b2 => ?_
 simp (contextual := true) (maxSteps := 1000000) (disch := omega) only [↓Sd, ↓So, ↓Sk, ↓den, ↓denA, Sa, Sb, Sc, Se, O1.d, O2.d, O3.d, cmI, arI, envOf, putN, ↓reduceIte, Nat.reduceLT, Nat.reduceSub, Nat.reduceAdd, Int.reduceAdd, Int.reduceEq, Int.reduceLT, Int.reduceLE, arr_pos, arr_neg, ]
 refine ⟨fun _ => h _ (by omega) (by omega), fun h0 => ?_⟩
 refine sz_TermSS _ k (by omega) h3 h4 fun m c1 c2 => ?_
 simp (contextual := true) (maxSteps := 1000000) (disch := omega) only [↓Sd, ↓So, ↓Sk, ↓den, ↓denA, Sa, Sb, Sc, Se, O1.d, O2.d, O3.d, cmI, arI, envOf, putN, ↓reduceIte, Nat.reduceLT, Nat.reduceSub, Nat.reduceAdd, Int.reduceAdd, Int.reduceEq, Int.reduceLT, Int.reduceLE, arr_pos, arr_neg, ]
 refine ⟨fun _ => h _ (by omega) (by omega), fun h0 => ?_⟩
 exact h _ (by omega) fun _ => ⟨a2 (by omega), b2 (by omega), c2 (by omega)⟩
def LtRu (r : Ru) : Prop := Lt63 r.1 ∧ Lt63 r.2.1 ∧ Lt63 r.2.2 ∧ ∀ x ∈ r.2.2, Lt63 x
def FewRu (r : Ru) : Prop := Few r.1 ∧ Few r.2.1 ∧ Few r.2.2 ∧ ∀ x ∈ r.2.2, Few x
theorem sz_RuleS (l : List Ru) (n : Int) (hn : 0 ≤ n ∧ n ≤ 1048576) (hl : Lt63 l) (hl2 : ∀ x ∈ l, LtRu x) {Q : List AV → Prop} (h : ∀ k : Int, k ≤ n → (0 ≤ k → Few l ∧ ∀ x ∈ l, FewRu x) → Q [⟨I, k⟩]) : mc.C f_laws_szRuleS [⟨L TR, l⟩, ⟨I, n⟩] Q := by
 unfold Lt63 at hl
 refine mc.c_of F_laws_szRuleS ?_
 simp (contextual := true) (maxSteps := 1000000) (disch := omega) only [↓Sd, ↓So, ↓Sk, ↓den, ↓denA, Sa, Sb, Sc, Se, O1.d, O2.d, O3.d, cmI, arI, envOf, putN, ↓reduceIte, Nat.reduceLT, Nat.reduceSub, Nat.reduceAdd, Int.reduceAdd, Int.reduceEq, Int.reduceLT, Int.reduceLE, arr_pos, arr_neg, tr_laws_szRuleS]
 refine ⟨fun h0 => h _ (by omega) (by omega), fun h0 => ?_⟩
 refine lp_sz TR l _ (fun x => FewRu x) _ ?_ ?_ ?_ (by omega)
 ·intro i k X hi h0 hk hX
  simp (contextual := true) (maxSteps := 1000000) (disch := omega) only [↓Sd, ↓So, ↓Sk, ↓den, ↓denA, Sa, Sb, Sc, Se, O1.d, O2.d, O3.d, cmI, arI, envOf, putN, ↓reduceIte, Nat.reduceLT, Nat.reduceSub, Nat.reduceAdd, Int.reduceAdd, Int.reduceEq, Int.reduceLT, Int.reduceLE, arr_pos, arr_neg, ]
  obtain ⟨c1, c2, c3, c4⟩ := hl2 _ (getD_mem (d := ([], [], [])) hi)
  refine sz_Rule (l.getD i ([], [], [])) k ⟨h0, by omega⟩ c1 c2 c3 c4 fun j h1 h2 => ?_
  simp (contextual := true) (maxSteps := 1000000) (disch := omega) only [↓Sd, ↓So, ↓Sk, ↓den, ↓denA, Sa, Sb, Sc, Se, O1.d, O2.d, O3.d, cmI, arI, envOf, putN, ↓reduceIte, Nat.reduceLT, Nat.reduceSub, Nat.reduceAdd, Int.reduceAdd, Int.reduceEq, Int.reduceLT, Int.reduceLE, arr_pos, arr_neg, ]
  exact fun h => ⟨by omega, hX j h1 h2⟩
 ·exact h _ (by omega) (by omega)
 ·intro k h0 hk hp
  simp (contextual := true) (maxSteps := 1000000) (disch := omega) only [↓Sd, ↓So, ↓Sk, ↓den, ↓denA, Sa, Sb, Sc, Se, O1.d, O2.d, O3.d, cmI, arI, envOf, putN, ↓reduceIte, Nat.reduceLT, Nat.reduceSub, Nat.reduceAdd, Int.reduceAdd, Int.reduceEq, Int.reduceLT, Int.reduceLE, arr_pos, arr_neg, ]
  exact h _ (by omega) fun _ => ⟨by unfold Few; omega, hp⟩
def LtSy (s : Sy) : Prop := Lt63 s.1 ∧ Lt63 s.2 ∧ ∀ x ∈ s.2, LtRu x
def FewSy (s : Sy) : Prop := Few s.1 ∧ Few s.2 ∧ ∀ x ∈ s.2, FewRu x
theorem sz_System (s : Sy) (n : Int) (hn : 0 ≤ n ∧ n ≤ 1048576) (hl : LtSy s) {Q : List AV → Prop} (h : ∀ k : Int, k ≤ n → (0 ≤ k → FewSy s) → Q [⟨I, k⟩]) : mc.C f_laws_szSystem [⟨L V3, s.1⟩, ⟨L TR, s.2⟩, ⟨I, n⟩] Q := by
 obtain ⟨h1, h2, h3⟩ := hl
 refine mc.c_of F_laws_szSystem ?_
 simp (contextual := true) (maxSteps := 1000000) (disch := omega) only [↓Sd, ↓So, ↓Sk, ↓den, ↓denA, Sa, Sb, Sc, Se, O1.d, O2.d, O3.d, cmI, arI, envOf, putN, ↓reduceIte, Nat.reduceLT, Nat.reduceSub, Nat.reduceAdd, Int.reduceAdd, Int.reduceEq, Int.reduceLT, Int.reduceLE, arr_pos, arr_neg, tr_laws_szSystem]
 refine sz_VarS _ n hn h1 fun j a1 a2 => ?_
 simp (contextual := true) (maxSteps := 1000000) (disch := omega) only [↓Sd, ↓So, ↓Sk, ↓den, ↓denA, Sa, Sb, Sc, Se, O1.d, O2.d, O3.d, cmI, arI, envOf, putN, ↓reduceIte, Nat.reduceLT, Nat.reduceSub, Nat.reduceAdd, Int.reduceAdd, Int.reduceEq, Int.reduceLT, Int.reduceLE, arr_pos, arr_neg, ]
 refine ⟨fun _ => h _ (by omega) (by omega), fun h0 => ?_⟩
 refine sz_RuleS _ j (by omega) h2 h3 fun k b1 b2 => ?_
 simp (contextual := true) (maxSteps := 1000000) (disch := omega) only [↓Sd, ↓So, ↓Sk, ↓den, ↓denA, Sa, Sb, Sc, Se, O1.d, O2.d, O3.d, cmI, arI, envOf, putN, ↓reduceIte, Nat.reduceLT, Nat.reduceSub, Nat.reduceAdd, Int.reduceAdd, Int.reduceEq, Int.reduceLT, Int.reduceLE, arr_pos, arr_neg, ]
 refine ⟨fun _ => h _ (by omega) (by omega), fun h0 => ?_⟩
 exact h _ (by omega) fun _ => ⟨a2 (by omega), b2 (by omega)⟩
theorem few_lim {α : Type} {l : List α} (h : Few l) : (l.length : Int) ≤ 1048576 := by unfold Few at h; omega
theorem to_Var (v : Vr) (Q : List AV → Prop) : mc.C f_laws_toVar [⟨I, v.1⟩, ⟨I, v.2.1⟩, ⟨I, v.2.2⟩] Q = Q [⟨I, v.1⟩, ⟨I, v.2.1⟩, ⟨I, v.2.2⟩] :=
 Mc.Ends.c (mc.ends F_laws_toVar (by simp (contextual := true) (maxSteps := 1000000) (disch := omega) only [↓Sd, ↓So, ↓Sk, ↓den, ↓denA, Sa, Sb, Sc, Se, O1.d, O2.d, O3.d, cmI, arI, envOf, putN, ↓reduceIte, Nat.reduceLT, Nat.reduceSub, Nat.reduceAdd, Int.reduceAdd, Int.reduceEq, Int.reduceLT, Int.reduceLE, arr_pos, arr_neg, tr_laws_toVar]))
theorem to_Term (v : Tm) (Q : List AV → Prop) : mc.C f_laws_toTerm [⟨I, v.1⟩, ⟨I, v.2.1⟩, ⟨I, v.2.2.1⟩, ⟨I, v.2.2.2⟩] Q = Q [⟨I, v.1⟩, ⟨I, v.2.1⟩, ⟨I, v.2.2.1⟩, ⟨I, v.2.2.2⟩] :=
 Mc.Ends.c (mc.ends F_laws_toTerm (by simp (contextual := true) (maxSteps := 1000000) (disch := omega) only [↓Sd, ↓So, ↓Sk, ↓den, ↓denA, Sa, Sb, Sc, Se, O1.d, O2.d, O3.d, cmI, arI, envOf, putN, ↓reduceIte, Nat.reduceLT, Nat.reduceSub, Nat.reduceAdd, Int.reduceAdd, Int.reduceEq, Int.reduceLT, Int.reduceLE, arr_pos, arr_neg, tr_laws_toTerm]))
theorem to_VarS (l : List Vr) (h : Few l) (Q : List AV → Prop) : mc.C f_laws_toVarS [⟨L V3, l⟩] Q = Q [⟨L V3, l⟩] := by
 have := few_lim h
 refine Mc.Ends.c (mc.ends F_laws_toVarS ?_)
 simp (contextual := true) (maxSteps := 1000000) (disch := omega) only [↓Sd, ↓So, ↓Sk, ↓den, ↓denA, Sa, Sb, Sc, Se, O1.d, O2.d, O3.d, cmI, arI, envOf, putN, ↓reduceIte, Nat.reduceLT, Nat.reduceSub, Nat.reduceAdd, Int.reduceAdd, Int.reduceEq, Int.reduceLT, Int.reduceLE, arr_pos, arr_neg, tr_laws_toVarS]
 refine lp_copy V3 l ?_ ?_
 ·intro i s hi hs
  simp (contextual := true) (maxSteps := 1000000) (disch := omega) only [↓Sd, ↓So, ↓Sk, ↓den, ↓denA, Sa, Sb, Sc, Se, O1.d, O2.d, O3.d, cmI, arI, envOf, putN, ↓reduceIte, Nat.reduceLT, Nat.reduceSub, Nat.reduceAdd, Int.reduceAdd, Int.reduceEq, Int.reduceLT, Int.reduceLE, arr_pos, arr_neg, to_Var]
 ·simp (contextual := true) (maxSteps := 1000000) (disch := omega) only [↓Sd, ↓So, ↓Sk, ↓den, ↓denA, Sa, Sb, Sc, Se, O1.d, O2.d, O3.d, cmI, arI, envOf, putN, ↓reduceIte, Nat.reduceLT, Nat.reduceSub, Nat.reduceAdd, Int.reduceAdd, Int.reduceEq, Int.reduceLT, Int.reduceLE, arr_pos, arr_neg, ]
theorem to_TermS (l : List Tm) (h : Few l) (Q : List AV → Prop) : mc.C f_laws_toTermS [⟨L T4, l⟩] Q = Q [⟨L T4, l⟩] := by
 have := few_lim h
 refine Mc.Ends.c (mc.ends F_laws_toTermS ?_)
 simp (contextual := true) (maxSteps := 1000000) (disch := omega) only [↓Sd, ↓So, ↓Sk, ↓den, ↓denA, Sa, Sb, Sc, Se, O1.d, O2.d, O3.d, cmI, arI, envOf, putN, ↓reduceIte, Nat.reduceLT, Nat.reduceSub, Nat.reduceAdd, Int.reduceAdd, Int.reduceEq, Int.reduceLT, Int.reduceLE, arr_pos, arr_neg, tr_laws_toTermS]
 refine lp_copy T4 l ?_ ?_
 ·intro i s hi hs
  simp (contextual := true) (maxSteps := 1000000) (disch := omega) only [↓Sd, ↓So, ↓Sk, ↓den, ↓denA, Sa, Sb, Sc, Se, O1.d, O2.d, O3.d, cmI, arI, envOf, putN, ↓reduceIte, Nat.reduceLT, Nat.reduceSub, Nat.reduceAdd, Int.reduceAdd, Int.reduceEq, Int.reduceLT, Int.reduceLE, arr_pos, arr_neg, to_Term]
 ·simp (contextual := true) (maxSteps := 1000000) (disch := omega) only [↓Sd, ↓So, ↓Sk, ↓den, ↓denA, Sa, Sb, Sc, Se, O1.d, O2.d, O3.d, cmI, arI, envOf, putN, ↓reduceIte, Nat.reduceLT, Nat.reduceSub, Nat.reduceAdd, Int.reduceAdd, Int.reduceEq, Int.reduceLT, Int.reduceLE, arr_pos, arr_neg, ]
theorem to_IntS (l : List Int) (h : Few l) (Q : List AV → Prop) : mc.C f_laws_toIntS [⟨L I, l⟩] Q = Q [⟨L I, l⟩] := by
 have := few_lim h
 refine Mc.Ends.c (mc.ends F_laws_toIntS ?_)
 simp (contextual := true) (maxSteps := 1000000) (disch := omega) only [↓Sd, ↓So, ↓Sk, ↓den, ↓denA, Sa, Sb, Sc, Se, O1.d, O2.d, O3.d, cmI, arI, envOf, putN, ↓reduceIte, Nat.reduceLT, Nat.reduceSub, Nat.reduceAdd, Int.reduceAdd, Int.reduceEq, Int.reduceLT, Int.reduceLE, arr_pos, arr_neg, tr_laws_toIntS]
 refine lp_copy I l ?_ ?_
 ·intro i s hi hs
  simp (contextual := true) (maxSteps := 1000000) (disch := omega) only [↓Sd, ↓So, ↓Sk, ↓den, ↓denA, Sa, Sb, Sc, Se, O1.d, O2.d, O3.d, cmI, arI, envOf, putN, ↓reduceIte, Nat.reduceLT, Nat.reduceSub, Nat.reduceAdd, Int.reduceAdd, Int.reduceEq, Int.reduceLT, Int.reduceLE, arr_pos, arr_neg, ]
 ·simp (contextual := true) (maxSteps := 1000000) (disch := omega) only [↓Sd, ↓So, ↓Sk, ↓den, ↓denA, Sa, Sb, Sc, Se, O1.d, O2.d, O3.d, cmI, arI, envOf, putN, ↓reduceIte, Nat.reduceLT, Nat.reduceSub, Nat.reduceAdd, Int.reduceAdd, Int.reduceEq, Int.reduceLT, Int.reduceLE, arr_pos, arr_neg, ]
theorem to_TermSS (l : List (List Tm)) (h : Few l) (h2 : ∀ x ∈ l, Few x) (Q : List AV → Prop) : mc.C f_laws_toTermSS [⟨L (L T4), l⟩] Q = Q [⟨L (L T4), l⟩] := by
 have := few_lim h
 refine Mc.Ends.c (mc.ends F_laws_toTermSS ?_)
 simp (contextual := true) (maxSteps := 1000000) (disch := omega) only [↓Sd, ↓So, ↓Sk, ↓den, ↓denA, Sa, Sb, Sc, Se, O1.d, O2.d, O3.d, cmI, arI, envOf, putN, ↓reduceIte, Nat.reduceLT, Nat.reduceSub, Nat.reduceAdd, Int.reduceAdd, Int.reduceEq, Int.reduceLT, Int.reduceLE, arr_pos, arr_neg, tr_laws_toTermSS]
 refine lp_copy (L T4) l ?_ ?_
 ·intro i s hi hs
  simp (contextual := true) (maxSteps := 1000000) (disch := omega) only [↓Sd, ↓So, ↓Sk, ↓den, ↓denA, Sa, Sb, Sc, Se, O1.d, O2.d, O3.d, cmI, arI, envOf, putN, ↓reduceIte, Nat.reduceLT, Nat.reduceSub, Nat.reduceAdd, Int.reduceAdd, Int.reduceEq, Int.reduceLT, Int.reduceLE, arr_pos, arr_neg, to_TermS _ (h2 _ (getD_mem hi))]
 ·simp (contextual := true) (maxSteps := 1000000) (disch := omega) only [↓Sd, ↓So, ↓Sk, ↓den, ↓denA, Sa, Sb, Sc, Se, O1.d, O2.d, O3.d, cmI, arI, envOf, putN, ↓reduceIte, Nat.reduceLT, Nat.reduceSub, Nat.reduceAdd, Int.reduceAdd, Int.reduceEq, Int.reduceLT, Int.reduceLE, arr_pos, arr_neg, ]
theorem to_Rule (r : Ru) (h : FewRu r) (Q : List AV → Prop) : mc.C f_laws_toRule [⟨L T4, r.1⟩, ⟨L I, r.2.1⟩, ⟨L (L T4), r.2.2⟩] Q = Q [⟨L T4, r.1⟩, ⟨L I, r.2.1⟩, ⟨L (L T4), r.2.2⟩] := by
 obtain ⟨h1, h2, h3, h4⟩ := h
 refine Mc.Ends.c (mc.ends F_laws_toRule ?_)
 simp (contextual := true) (maxSteps := 1000000) (disch := omega) only [↓Sd, ↓So, ↓Sk, ↓den, ↓denA, Sa, Sb, Sc, Se, O1.d, O2.d, O3.d, cmI, arI, envOf, putN, ↓reduceIte, Nat.reduceLT, Nat.reduceSub, Nat.reduceAdd, Int.reduceAdd, Int.reduceEq, Int.reduceLT, Int.reduceLE, arr_pos, arr_neg, tr_laws_toRule, to_TermS _ h1, to_IntS _ h2, to_TermSS _ h3 h4]
theorem to_RuleS (l : List Ru) (h : Few l) (h2 : ∀ x ∈ l, FewRu x) (Q : List AV → Prop) : mc.C f_laws_toRuleS [⟨L TR, l⟩] Q = Q [⟨L TR, l⟩] := by
 have := few_lim h
 refine Mc.Ends.c (mc.ends F_laws_toRuleS ?_)
 simp (contextual := true) (maxSteps := 1000000) (disch := omega) only [↓Sd, ↓So, ↓Sk, ↓den, ↓denA, Sa, Sb, Sc, Se, O1.d, O2.d, O3.d, cmI, arI, envOf, putN, ↓reduceIte, Nat.reduceLT, Nat.reduceSub, Nat.reduceAdd, Int.reduceAdd, Int.reduceEq, Int.reduceLT, Int.reduceLE, arr_pos, arr_neg, tr_laws_toRuleS]
 refine lp_copy TR l ?_ ?_
 ·intro i s hi hs
  simp (contextual := true) (maxSteps := 1000000) (disch := omega) only [↓Sd, ↓So, ↓Sk, ↓den, ↓denA, Sa, Sb, Sc, Se, O1.d, O2.d, O3.d, cmI, arI, envOf, putN, ↓reduceIte, Nat.reduceLT, Nat.reduceSub, Nat.reduceAdd, Int.reduceAdd, Int.reduceEq, Int.reduceLT, Int.reduceLE, arr_pos, arr_neg, to_Rule _ (h2 _ (getD_mem (d := ([], [], [])) hi))]
 ·simp (contextual := true) (maxSteps := 1000000) (disch := omega) only [↓Sd, ↓So, ↓Sk, ↓den, ↓denA, Sa, Sb, Sc, Se, O1.d, O2.d, O3.d, cmI, arI, envOf, putN, ↓reduceIte, Nat.reduceLT, Nat.reduceSub, Nat.reduceAdd, Int.reduceAdd, Int.reduceEq, Int.reduceLT, Int.reduceLE, arr_pos, arr_neg, ]
theorem to_System (s : Sy) (h : FewSy s) (Q : List AV → Prop) : mc.C f_laws_toSystem [⟨L V3, s.1⟩, ⟨L TR, s.2⟩] Q = Q [⟨L V3, s.1⟩, ⟨L TR, s.2⟩] := by
 obtain ⟨h1, h2, h3⟩ := h
 refine Mc.Ends.c (mc.ends F_laws_toSystem ?_)
 simp (contextual := true) (maxSteps := 1000000) (disch := omega) only [↓Sd, ↓So, ↓Sk, ↓den, ↓denA, Sa, Sb, Sc, Se, O1.d, O2.d, O3.d, cmI, arI, envOf, putN, ↓reduceIte, Nat.reduceLT, Nat.reduceSub, Nat.reduceAdd, Int.reduceAdd, Int.reduceEq, Int.reduceLT, Int.reduceLE, arr_pos, arr_neg, tr_laws_toSystem, to_VarS _ h1, to_RuleS _ h2 h3]
theorem eq_Var (v : Vr) (Q : List AV → Prop) : mc.C f_laws_eqVar [⟨I, v.1⟩, ⟨I, v.2.1⟩, ⟨I, v.2.2⟩, ⟨I, v.1⟩, ⟨I, v.2.1⟩, ⟨I, v.2.2⟩] Q = Q [⟨B, true⟩] :=
 Mc.Ends.c (mc.ends F_laws_eqVar (by simp (contextual := true) (maxSteps := 1000000) (disch := omega) only [↓Sd, ↓So, ↓Sk, ↓den, ↓denA, Sa, Sb, Sc, Se, O1.d, O2.d, O3.d, cmI, arI, envOf, putN, ↓reduceIte, Nat.reduceLT, Nat.reduceSub, Nat.reduceAdd, Int.reduceAdd, Int.reduceEq, Int.reduceLT, Int.reduceLE, arr_pos, arr_neg, tr_laws_eqVar]))
theorem eq_Term (v : Tm) (Q : List AV → Prop) : mc.C f_laws_eqTerm [⟨I, v.1⟩, ⟨I, v.2.1⟩, ⟨I, v.2.2.1⟩, ⟨I, v.2.2.2⟩, ⟨I, v.1⟩, ⟨I, v.2.1⟩, ⟨I, v.2.2.1⟩, ⟨I, v.2.2.2⟩] Q = Q [⟨B, true⟩] :=
 Mc.Ends.c (mc.ends F_laws_eqTerm (by simp (contextual := true) (maxSteps := 1000000) (disch := omega) only [↓Sd, ↓So, ↓Sk, ↓den, ↓denA, Sa, Sb, Sc, Se, O1.d, O2.d, O3.d, cmI, arI, envOf, putN, ↓reduceIte, Nat.reduceLT, Nat.reduceSub, Nat.reduceAdd, Int.reduceAdd, Int.reduceEq, Int.reduceLT, Int.reduceLE, arr_pos, arr_neg, tr_laws_eqTerm]))
theorem lp_self {M : Mc} (t : Ty) {b : Tr} {Q : Out → Prop} (l : List t.D)
  (hb : ∀ (i : Nat), i < l.length → M.wp b (envOf [⟨L t, l⟩, ⟨L t, l⟩, ⟨I, (i : Int)⟩]) (onJ (fun us => us = [⟨L t, l⟩, ⟨L t, l⟩, ⟨I, (i : Int) + 1⟩]) Q))
  (he : M.wp b (envOf [⟨L t, l⟩, ⟨L t, l⟩, ⟨I, (l.length : Int)⟩]) (onJ (fun _ => False) Q)) : M.LP b [⟨L t, l⟩, ⟨L t, l⟩, ⟨I, (0 : Int)⟩] Q :=
 lp_all (fun i => [⟨L t, l⟩, ⟨L t, l⟩, ⟨I, (i : Int)⟩]) (fun _ => True) l.length _ rfl (fun i hi => M.wp_mono _ _ _ _ (onJ_mono (fun us hu => ⟨hu, trivial⟩) fun _ h => h) (hb i hi)) fun _ => he
theorem eq_VarS (l : List Vr) (h : Few l) (Q : List AV → Prop) : mc.C f_laws_eqVarS [⟨L V3, l⟩, ⟨L V3, l⟩] Q = Q [⟨B, true⟩] := by
 have := few_lim h
 refine Mc.Ends.c (mc.ends F_laws_eqVarS ?_)
 simp (contextual := true) (maxSteps := 1000000) (disch := omega) only [↓Sd, ↓So, ↓Sk, ↓den, ↓denA, Sa, Sb, Sc, Se, O1.d, O2.d, O3.d, cmI, arI, envOf, putN, ↓reduceIte, Nat.reduceLT, Nat.reduceSub, Nat.reduceAdd, Int.reduceAdd, Int.reduceEq, Int.reduceLT, Int.reduceLE, arr_pos, arr_neg, tr_laws_eqVarS]
 refine lp_self V3 l (fun i hi => ?_) ?_
 ·simp (contextual := true) (maxSteps := 1000000) (disch := omega) only [↓Sd, ↓So, ↓Sk, ↓den, ↓denA, Sa, Sb, Sc, Se, O1.d, O2.d, O3.d, cmI, arI, envOf, putN, ↓reduceIte, Nat.reduceLT, Nat.reduceSub, Nat.reduceAdd, Int.reduceAdd, Int.reduceEq, Int.reduceLT, Int.reduceLE, arr_pos, arr_neg, eq_Var]
 ·simp (contextual := true) (maxSteps := 1000000) (disch := omega) only [↓Sd, ↓So, ↓Sk, ↓den, ↓denA, Sa, Sb, Sc, Se, O1.d, O2.d, O3.d, cmI, arI, envOf, putN, ↓reduceIte, Nat.reduceLT, Nat.reduceSub, Nat.reduceAdd, Int.reduceAdd, Int.reduceEq, Int.reduceLT, Int.reduceLE, arr_pos, arr_neg, ]
theorem eq_TermS (l : List Tm) (h : Few l) (Q : List AV → Prop) : mc.C f_laws_eqTermS [⟨L T4, l⟩, ⟨L T4, l⟩] Q = Q [⟨B, true⟩] := by
 have := few_lim h
 refine Mc.Ends.c (mc.ends F_laws_eqTermS ?_)
 simp (contextual := true) (maxSteps := 1000000) (disch := omega) only [↓Sd, ↓So, ↓Sk, ↓den, ↓denA, Sa, Sb, Sc, Se, O1.d, O2.d, O3.d, cmI, arI, envOf, putN, ↓reduceIte, Nat.reduceLT, Nat.reduceSub, Nat.reduceAdd, Int.reduceAdd, Int.reduceEq, Int.reduceLT, Int.reduceLE, arr_pos, arr_neg, tr_laws_eqTermS]
 refine lp_self T4 l (fun i hi => ?_) ?_
 ·simp (contextual := true) (maxSteps := 1000000) (disch := omega) only [↓Sd, ↓So, ↓Sk, ↓den, ↓denA, Sa, Sb, Sc, Se, O1.d, O2.d, O3.d, cmI, arI, envOf, putN, ↓reduceIte, Nat.reduceLT, Nat.reduceSub, Nat.reduceAdd, Int.reduceAdd, Int.reduceEq, Int.reduceLT, Int.reduceLE, arr_pos, arr_neg, eq_Term]
 ·simp (contextual := true) (maxSteps := 1000000) (disch := omega) only [↓Sd, ↓So, ↓Sk, ↓den, ↓denA, Sa, Sb, Sc, Se, O1.d, O2.d, O3.d, cmI, arI, envOf, putN, ↓reduceIte, Nat.reduceLT, Nat.reduceSub, Nat.reduceAdd, Int.reduceAdd, Int.reduceEq, Int.reduceLT, Int.reduceLE, arr_pos, arr_neg, ]
theorem eq_IntS (l : List Int) (h : Few l) (Q : List AV → Prop) : mc.C f_laws_eqIntS [⟨L I, l⟩, ⟨L I, l⟩] Q = Q [⟨B, true⟩] := by
 have := few_lim h
 refine Mc.Ends.c (mc.ends F_laws_eqIntS ?_)
 simp (contextual := true) (maxSteps := 1000000) (disch := omega) only [↓Sd, ↓So, ↓Sk, ↓den, ↓denA, Sa, Sb, Sc, Se, O1.d, O2.d, O3.d, cmI, arI, envOf, putN, ↓reduceIte, Nat.reduceLT, Nat.reduceSub, Nat.reduceAdd, Int.reduceAdd, Int.reduceEq, Int.reduceLT, Int.reduceLE, arr_pos, arr_neg, tr_laws_eqIntS]
 refine lp_self I l (fun i hi => ?_) ?_
 ·simp (contextual := true) (maxSteps := 1000000) (disch := omega) only [↓Sd, ↓So, ↓Sk, ↓den, ↓denA, Sa, Sb, Sc, Se, O1.d, O2.d, O3.d, cmI, arI, envOf, putN, ↓reduceIte, Nat.reduceLT, Nat.reduceSub, Nat.reduceAdd, Int.reduceAdd, Int.reduceEq, Int.reduceLT, Int.reduceLE, arr_pos, arr_neg, ]
 ·simp (contextual := true) (maxSteps := 1000000) (disch := omega) only [↓Sd, ↓So, ↓Sk, ↓den, ↓denA, Sa, Sb, Sc, Se, O1.d, O2.d, O3.d, cmI, arI, envOf, putN, ↓reduceIte, Nat.reduceLT, Nat.reduceSub, Nat.reduceAdd, Int.reduceAdd, Int.reduceEq, Int.reduceLT, Int.reduceLE, arr_pos, arr_neg, ]
theorem eq_TermSS (l : List (List Tm)) (h : Few l) (h2 : ∀ x ∈ l, Few x) (Q : List AV → Prop) : mc.C f_laws_eqTermSS [⟨L (L T4), l⟩, ⟨L (L T4), l⟩] Q = Q [⟨B, true⟩] := by
 have := few_lim h
 refine Mc.Ends.c (mc.ends F_laws_eqTermSS ?_)
 simp (contextual := true) (maxSteps := 1000000) (disch := omega) only [↓Sd, ↓So, ↓Sk, ↓den, ↓denA, Sa, Sb, Sc, Se, O1.d, O2.d, O3.d, cmI, arI, envOf, putN, ↓reduceIte, Nat.reduceLT, Nat.reduceSub, Nat.reduceAdd, Int.reduceAdd, Int.reduceEq, Int.reduceLT, Int.reduceLE, arr_pos, arr_neg, tr_laws_eqTermSS]
 refine lp_self (L T4) l (fun i hi => ?_) ?_
 ·simp (contextual := true) (maxSteps := 1000000) (disch := omega) only [↓Sd, ↓So, ↓Sk, ↓den, ↓denA, Sa, Sb, Sc, Se, O1.d, O2.d, O3.d, cmI, arI, envOf, putN, ↓reduceIte, Nat.reduceLT, Nat.reduceSub, Nat.reduceAdd, Int.reduceAdd, Int.reduceEq, Int.reduceLT, Int.reduceLE, arr_pos, arr_neg, eq_TermS _ (h2 _ (getD_mem hi))]
 ·simp (contextual := true) (maxSteps := 1000000) (disch := omega) only [↓Sd, ↓So, ↓Sk, ↓den, ↓denA, Sa, Sb, Sc, Se, O1.d, O2.d, O3.d, cmI, arI, envOf, putN, ↓reduceIte, Nat.reduceLT, Nat.reduceSub, Nat.reduceAdd, Int.reduceAdd, Int.reduceEq, Int.reduceLT, Int.reduceLE, arr_pos, arr_neg, ]
theorem eq_Rule (r : Ru) (h : FewRu r) (Q : List AV → Prop) : mc.C f_laws_eqRule [⟨L T4, r.1⟩, ⟨L I, r.2.1⟩, ⟨L (L T4), r.2.2⟩, ⟨L T4, r.1⟩, ⟨L I, r.2.1⟩, ⟨L (L T4), r.2.2⟩] Q = Q [⟨B, true⟩] := by
 obtain ⟨h1, h2, h3, h4⟩ := h
 refine Mc.Ends.c (mc.ends F_laws_eqRule ?_)
 simp (contextual := true) (maxSteps := 1000000) (disch := omega) only [↓Sd, ↓So, ↓Sk, ↓den, ↓denA, Sa, Sb, Sc, Se, O1.d, O2.d, O3.d, cmI, arI, envOf, putN, ↓reduceIte, Nat.reduceLT, Nat.reduceSub, Nat.reduceAdd, Int.reduceAdd, Int.reduceEq, Int.reduceLT, Int.reduceLE, arr_pos, arr_neg, tr_laws_eqRule, eq_TermS _ h1, eq_IntS _ h2, eq_TermSS _ h3 h4]
theorem eq_RuleS (l : List Ru) (h : Few l) (h2 : ∀ x ∈ l, FewRu x) (Q : List AV → Prop) : mc.C f_laws_eqRuleS [⟨L TR, l⟩, ⟨L TR, l⟩] Q = Q [⟨B, true⟩] := by
 have := few_lim h
 refine Mc.Ends.c (mc.ends F_laws_eqRuleS ?_)
 simp (contextual := true) (maxSteps := 1000000) (disch := omega) only [↓Sd, ↓So, ↓Sk, ↓den, ↓denA, Sa, Sb, Sc, Se, O1.d, O2.d, O3.d, cmI, arI, envOf, putN, ↓reduceIte, Nat.reduceLT, Nat.reduceSub, Nat.reduceAdd, Int.reduceAdd, Int.reduceEq, Int.reduceLT, Int.reduceLE, arr_pos, arr_neg, tr_laws_eqRuleS]
 refine lp_self TR l (fun i hi => ?_) ?_
 ·simp (contextual := true) (maxSteps := 1000000) (disch := omega) only [↓Sd, ↓So, ↓Sk, ↓den, ↓denA, Sa, Sb, Sc, Se, O1.d, O2.d, O3.d, cmI, arI, envOf, putN, ↓reduceIte, Nat.reduceLT, Nat.reduceSub, Nat.reduceAdd, Int.reduceAdd, Int.reduceEq, Int.reduceLT, Int.reduceLE, arr_pos, arr_neg, eq_Rule _ (h2 _ (getD_mem (d := ([], [], [])) hi))]
 ·simp (contextual := true) (maxSteps := 1000000) (disch := omega) only [↓Sd, ↓So, ↓Sk, ↓den, ↓denA, Sa, Sb, Sc, Se, O1.d, O2.d, O3.d, cmI, arI, envOf, putN, ↓reduceIte, Nat.reduceLT, Nat.reduceSub, Nat.reduceAdd, Int.reduceAdd, Int.reduceEq, Int.reduceLT, Int.reduceLE, arr_pos, arr_neg, ]
theorem eq_System (s : Sy) (h : FewSy s) (Q : List AV → Prop) : mc.C f_laws_eqSystem [⟨L V3, s.1⟩, ⟨L TR, s.2⟩, ⟨L V3, s.1⟩, ⟨L TR, s.2⟩] Q = Q [⟨B, true⟩] := by
 obtain ⟨h1, h2, h3⟩ := h
 refine Mc.Ends.c (mc.ends F_laws_eqSystem ?_)
 simp (contextual := true) (maxSteps := 1000000) (disch := omega) only [↓Sd, ↓So, ↓Sk, ↓den, ↓denA, Sa, Sb, Sc, Se, O1.d, O2.d, O3.d, cmI, arI, envOf, putN, ↓reduceIte, Nat.reduceLT, Nat.reduceSub, Nat.reduceAdd, Int.reduceAdd, Int.reduceEq, Int.reduceLT, Int.reduceLE, arr_pos, arr_neg, tr_laws_eqSystem, eq_VarS _ h1, eq_RuleS _ h2 h3]
theorem C_spec_l1In (n a b : Int) (Q : List AV → Prop) : mc.C f_spec_l1In [⟨I, n⟩, ⟨I, a⟩, ⟨I, b⟩] Q = Q [⟨B, decide (a ≤ n ∧ n ≤ b)⟩] := by
 refine Mc.Ends.c (mc.ends F_spec_l1In ?_)
 simp (contextual := true) (maxSteps := 1000000) (disch := omega) only [↓Sd, ↓So, ↓Sk, ↓den, ↓denA, Sa, Sb, Sc, Se, O1.d, O2.d, O3.d, cmI, arI, envOf, putN, ↓reduceIte, Nat.reduceLT, Nat.reduceSub, Nat.reduceAdd, Int.reduceAdd, Int.reduceEq, Int.reduceLT, Int.reduceLE, arr_pos, arr_neg, tr_spec_l1In] <;> grind
theorem C_impl_in (n a b : Int) (Q : List AV → Prop) : mc.C f_impl_in [⟨I, n⟩, ⟨I, a⟩, ⟨I, b⟩] Q = Q [⟨B, decide (a ≤ n ∧ n ≤ b)⟩] := by
 refine Mc.Ends.c (mc.ends F_impl_in ?_)
 simp (contextual := true) (maxSteps := 1000000) (disch := omega) only [↓Sd, ↓So, ↓Sk, ↓den, ↓denA, Sa, Sb, Sc, Se, O1.d, O2.d, O3.d, cmI, arI, envOf, putN, ↓reduceIte, Nat.reduceLT, Nat.reduceSub, Nat.reduceAdd, Int.reduceAdd, Int.reduceEq, Int.reduceLT, Int.reduceLE, arr_pos, arr_neg, tr_impl_in] <;> grind
theorem C_spec_l1One (n : Int) (Q : List AV → Prop) : mc.C f_spec_l1One [⟨I, n⟩] Q = Q [⟨B, decide (n = 7)⟩] := by
 refine Mc.Ends.c (mc.ends F_spec_l1One ?_)
 simp (contextual := true) (maxSteps := 1000000) (disch := omega) only [↓Sd, ↓So, ↓Sk, ↓den, ↓denA, Sa, Sb, Sc, Se, O1.d, O2.d, O3.d, cmI, arI, envOf, putN, ↓reduceIte, Nat.reduceLT, Nat.reduceSub, Nat.reduceAdd, Int.reduceAdd, Int.reduceEq, Int.reduceLT, Int.reduceLE, arr_pos, arr_neg, tr_spec_l1One]
 grind
theorem C_impl_parts (n : Int) (Q : List AV → Prop) : mc.C f_impl_parts [⟨I, n⟩] Q = Q [⟨I, if 2 ≤ n ∧ n ≤ 9 then (if n = 7 then 1 else 2) else 0⟩, ⟨I, if 2 ≤ n ∧ n ≤ 9 then (if 7 ≤ n then 2 else 1) else 0⟩, ⟨I, if 5 ≤ n ∧ n ≤ 9 then 2 else 1⟩] := by
 refine Mc.Ends.c (mc.ends F_impl_parts ?_)
 simp (contextual := true) (maxSteps := 1000000) (disch := omega) only [↓Sd, ↓So, ↓Sk, ↓den, ↓denA, Sa, Sb, Sc, Se, O1.d, O2.d, O3.d, cmI, arI, envOf, putN, ↓reduceIte, Nat.reduceLT, Nat.reduceSub, Nat.reduceAdd, Int.reduceAdd, Int.reduceEq, Int.reduceLT, Int.reduceLE, arr_pos, arr_neg, tr_impl_parts]
 intro h1 h2 h3 h4 h5 h6 h7 h8
 rw [if_neg (by omega), if_neg (by omega), if_neg (by omega)]; exact ⟨rfl, rfl, rfl⟩
def kd (t : Tm) (ks : List Int) (vars : Int) : Int :=
 if t.1 = 0 then (if -9999 ≤ t.2.1 ∧ t.2.1 ≤ 9999 ∧ t.2.2.1 = 0 ∧ t.2.2.2 = 0 then 1 else 0)
 else if t.1 = 1 then (if 0 ≤ t.2.1 ∧ t.2.1 ≤ vars - 1 ∧ t.2.2.1 = 0 ∧ t.2.2.2 = 0 then 1 else 0)
 else if 2 ≤ t.1 ∧ t.1 ≤ 9 ∧ t.2.1 = 0 ∧ (0 ≤ t.2.2.1 ∧ t.2.2.1 < ks.length) ∧ (0 ≤ t.2.2.2 ∧ t.2.2.2 < ks.length) ∧
   ks.getD t.2.2.1.toNat 0 = (if 7 ≤ t.1 then 2 else 1) ∧ ks.getD t.2.2.2.toNat 0 = (if 7 ≤ t.1 then 2 else 1) ∧ (t.1 = 7 → t.2.2.2 = t.2.2.1) then (if 5 ≤ t.1 then 2 else 1)
 else 0
theorem kd_low {t : Tm} {ks : List Int} {vars : Int} (h : kd t ks vars ≠ 0) : kd t ks vars = if 5 ≤ t.1 ∧ t.1 ≤ 9 then 2 else 1 := by
 unfold kd at h ⊢
 grind
def kds (vars : Int) : List Tm → List Int → Option (List Int)
 | [], ks => some ks
 | t :: l, ks => if kd t ks vars = 0 then none else kds vars l (ks ++ [kd t ks vars])
def kdsOf (l : List Tm) (vars : Int) : List Int := if (0 ≤ vars ∧ vars ≤ 5) ∧ 1 ≤ l.length ∧ l.length ≤ 40 then (kds vars l []).getD [] else []
def kf (l : List Tm) (vars : Int) : Int := (kdsOf l vars).getLastD 0
theorem kds_len {vars : Int} : ∀ {l : List Tm} {ks o : List Int}, kds vars l ks = some o → o.length = ks.length + l.length
 | [], ks, o, h => by cases h; simp
 | t :: l, ks, o, h => by
  simp only [kds] at h
  split at h
  ·cases h
  ·have := kds_len h
   simp only [List.length_append, List.length_cons, List.length_nil] at this ⊢
   omega
theorem drop_cons {α : Type} {l : List α} {i : Nat} {d : α} (h : i < l.length) : l.drop i = l.getD i d :: l.drop (i + 1) := by
 rw [getD_lt h]; exact List.drop_eq_getElem_cons h
def Nt (p : Prop) : Prop := ¬ p
theorem kd_op {o n a b vars w : Int} {ks : List Int} (hw : (if 7 ≤ o then (2 : Int) else 1) = w) (h3 : 2 ≤ o ∧ o ≤ 9) (h4 : n = 0) (h5 : 0 ≤ a ∧ a < ks.length) (h6 : 0 ≤ b ∧ b < ks.length) :
  kd (o, n, a, b) ks vars = if ks.getD a.toNat 0 = w ∧ ks.getD b.toNat 0 = w ∧ (o = 7 → b = a) then (if 5 ≤ o then 2 else 1) else 0 := by
 simp only [kd, hw]
 rw [if_neg (by omega), if_neg (by omega)]
 simp only [h3, h4, h5, h6, true_and]
theorem C_spec_l1Kind (t : Tm) (ks : List Int) (vars : Int) (hv : 0 ≤ vars ∧ vars ≤ 5) (hk : ks.length ≤ 40) (Q : List AV → Prop) :
  mc.C f_spec_l1Kind [⟨I, t.1⟩, ⟨I, t.2.1⟩, ⟨I, t.2.2.1⟩, ⟨I, t.2.2.2⟩, ⟨L I, ks⟩, ⟨I, vars⟩] Q = Q [⟨I, kd t ks vars⟩] := by
 refine Mc.Ends.c (mc.ends F_spec_l1Kind ?_)
 obtain ⟨o, n, a, b⟩ := t
 generalize hK : kd (o, n, a, b) ks vars = K
 simp (contextual := true) (maxSteps := 1000000) (disch := omega) only [↓Sd, ↓So, ↓Sk, ↓den, ↓denA, Sa, Sb, Sc, Se, O1.d, O2.d, O3.d, cmI, arI, envOf, putN, ↓reduceIte, Nat.reduceLT, Nat.reduceSub, Nat.reduceAdd, Int.reduceAdd, Int.reduceEq, Int.reduceLT, Int.reduceLE, arr_pos, arr_neg, tr_spec_l1Kind, C_spec_l1In, C_spec_l1One]
 refine mc.wp_join (fun us => us = [⟨L I, ks⟩, ⟨I, vars⟩, ⟨I, o⟩, ⟨I, n⟩, ⟨I, a⟩, ⟨I, b⟩] ∧ Nt (o = 0 ∧ -9999 ≤ n ∧ n ≤ 9999 ∧ a = 0 ∧ b = 0)) ?_ ?_
 ·simp (contextual := true) (maxSteps := 1000000) (disch := omega) only [↓Sd, ↓So, ↓Sk, ↓den, ↓denA, Sa, Sb, Sc, Se, O1.d, O2.d, O3.d, cmI, arI, envOf, putN, ↓reduceIte, Nat.reduceLT, Nat.reduceSub, Nat.reduceAdd, Int.reduceAdd, Int.reduceEq, Int.reduceLT, Int.reduceLE, arr_pos, arr_neg, C_spec_l1In, C_spec_l1One]
  simp only [kd, Nt] at hK ⊢
  grind
 rintro _ ⟨rfl, h1⟩
 refine mc.wp_join (fun us => us = [⟨L I, ks⟩, ⟨I, o⟩, ⟨I, n⟩, ⟨I, a⟩, ⟨I, b⟩] ∧ Nt (o = 1 ∧ 0 ≤ n ∧ n ≤ vars - 1 ∧ a = 0 ∧ b = 0)) ?_ ?_
 ·simp (contextual := true) (maxSteps := 1000000) (disch := omega) only [↓Sd, ↓So, ↓Sk, ↓den, ↓denA, Sa, Sb, Sc, Se, O1.d, O2.d, O3.d, cmI, arI, envOf, putN, ↓reduceIte, Nat.reduceLT, Nat.reduceSub, Nat.reduceAdd, Int.reduceAdd, Int.reduceEq, Int.reduceLT, Int.reduceLE, arr_pos, arr_neg, C_spec_l1In, C_spec_l1One]
  simp only [kd, Nt] at hK ⊢
  grind
 rintro _ ⟨rfl, h2⟩
 simp (contextual := true) (maxSteps := 1000000) (disch := omega) only [↓Sd, ↓So, ↓Sk, ↓den, ↓denA, Sa, Sb, Sc, Se, O1.d, O2.d, O3.d, cmI, arI, envOf, putN, ↓reduceIte, Nat.reduceLT, Nat.reduceSub, Nat.reduceAdd, Int.reduceAdd, Int.reduceEq, Int.reduceLT, Int.reduceLE, arr_pos, arr_neg, C_spec_l1In, C_spec_l1One]
 refine ⟨fun h3 => ?_, fun h3 => ⟨fun h4 => ?_, fun h4 => ⟨fun h5 => ?_, fun h5 => ⟨fun h6 => ?_, fun h6 => ?_⟩⟩⟩⟩
 ·unfold Nt at h1 h2; simp only [kd] at hK; grind
 ·unfold Nt at h1 h2; simp only [kd] at hK; grind
 ·unfold Nt at h1 h2; simp only [kd] at hK; grind
 ·unfold Nt at h1 h2; simp only [kd] at hK; grind
 clear h1 h2
 generalize hw : (if 7 ≤ o then (2 : Int) else 1) = w
 rw [kd_op hw (by omega) (by omega) (by omega) (by omega)] at hK
 refine mc.wp_join (fun us => us = [⟨L I, ks⟩, ⟨I, w⟩, ⟨I, o⟩, ⟨I, n⟩, ⟨I, a⟩, ⟨I, b⟩]) ?_ ?_
 ·simp (contextual := true) (maxSteps := 1000000) (disch := omega) only [↓Sd, ↓So, ↓Sk, ↓den, ↓denA, Sa, Sb, Sc, Se, O1.d, O2.d, O3.d, cmI, arI, envOf, putN, ↓reduceIte, Nat.reduceLT, Nat.reduceSub, Nat.reduceAdd, Int.reduceAdd, Int.reduceEq, Int.reduceLT, Int.reduceLE, arr_pos, arr_neg, ]
  exact ⟨fun h => ⟨by rw [← hw, if_pos h], h4.symm⟩, fun h => ⟨by rw [← hw, if_neg h], h4.symm⟩⟩
 rintro _ rfl
 refine mc.wp_join (fun us => us = [⟨I, o⟩, ⟨I, n⟩, ⟨I, a⟩, ⟨I, b⟩] ∧ ks.getD a.toNat 0 = w ∧ ks.getD b.toNat 0 = w ∧ (o = 7 → b = a)) ?_ ?_
 ·simp (contextual := true) (maxSteps := 1000000) (disch := omega) only [↓Sd, ↓So, ↓Sk, ↓den, ↓denA, Sa, Sb, Sc, Se, O1.d, O2.d, O3.d, cmI, arI, envOf, putN, ↓reduceIte, Nat.reduceLT, Nat.reduceSub, Nat.reduceAdd, Int.reduceAdd, Int.reduceEq, Int.reduceLT, Int.reduceLE, arr_pos, arr_neg, C_spec_l1One]
  grind
 ·rintro _ ⟨rfl, h7, h8, h9⟩
  simp (contextual := true) (maxSteps := 1000000) (disch := omega) only [↓Sd, ↓So, ↓Sk, ↓den, ↓denA, Sa, Sb, Sc, Se, O1.d, O2.d, O3.d, cmI, arI, envOf, putN, ↓reduceIte, Nat.reduceLT, Nat.reduceSub, Nat.reduceAdd, Int.reduceAdd, Int.reduceEq, Int.reduceLT, Int.reduceLE, arr_pos, arr_neg, ]
  rw [if_pos ⟨h7, h8, h9⟩] at hK
  grind
theorem C_spec_KindsOf (l : List Tm) (vars : Int) (hl : Few l) (Q : List AV → Prop) : mc.C f_spec_KindsOf [⟨L T4, l⟩, ⟨I, vars⟩] Q = Q [⟨L I, kdsOf l vars⟩] := by
 have := few_lim hl
 refine Mc.Ends.c (mc.ends F_spec_KindsOf ?_)
 simp (contextual := true) (maxSteps := 1000000) (disch := omega) only [↓Sd, ↓So, ↓Sk, ↓den, ↓denA, Sa, Sb, Sc, Se, O1.d, O2.d, O3.d, cmI, arI, envOf, putN, ↓reduceIte, Nat.reduceLT, Nat.reduceSub, Nat.reduceAdd, Int.reduceAdd, Int.reduceEq, Int.reduceLT, Int.reduceLE, arr_pos, arr_neg, tr_spec_KindsOf, C_spec_l1In]
 unfold kdsOf
 refine ⟨fun h => by rw [if_neg (by omega)], fun h1 => ⟨fun h => by rw [if_neg (by omega)], fun h2 => ?_⟩⟩
 rw [if_pos (by omega)]
 refine mc.lp_for (List Int) (fun i s => [⟨L T4, l⟩, ⟨I, vars⟩, ⟨I, (i : Int)⟩, ⟨L I, s⟩]) (fun i s => s.length = i ∧ kds vars (l.drop i) s = kds vars l []) l.length 0 [] _ rfl (Nat.zero_le _) ⟨rfl, rfl⟩ ?_ ?_
 ·rintro i s hi ⟨hs, hk⟩
  simp (contextual := true) (maxSteps := 1000000) (disch := omega) only [↓Sd, ↓So, ↓Sk, ↓den, ↓denA, Sa, Sb, Sc, Se, O1.d, O2.d, O3.d, cmI, arI, envOf, putN, ↓reduceIte, Nat.reduceLT, Nat.reduceSub, Nat.reduceAdd, Int.reduceAdd, Int.reduceEq, Int.reduceLT, Int.reduceLE, arr_pos, arr_neg, C_spec_l1Kind (l.getD i (0, 0, 0, 0)) s vars (by omega) (by omega)]
  rw [drop_cons (d := (0, 0, 0, 0)) hi] at hk
  simp only [kds] at hk
  refine ⟨fun h => by rw [← hk, if_pos h]; rfl, fun h => ⟨by simp [hs], ?_⟩⟩
  rw [← hk, if_neg h]
 ·rintro s ⟨hs, hk⟩
  simp (contextual := true) (maxSteps := 1000000) (disch := omega) only [↓Sd, ↓So, ↓Sk, ↓den, ↓denA, Sa, Sb, Sc, Se, O1.d, O2.d, O3.d, cmI, arI, envOf, putN, ↓reduceIte, Nat.reduceLT, Nat.reduceSub, Nat.reduceAdd, Int.reduceAdd, Int.reduceEq, Int.reduceLT, Int.reduceLE, arr_pos, arr_neg, ]
  rw [← hk, List.drop_length]
  rfl
theorem kdsOf_len (l : List Tm) (vars : Int) : (kdsOf l vars).length ≤ 40 := by
 unfold kdsOf
 split
 ·cases h : kds vars l [] with
  | none => simp
  | some o => have := kds_len h; simp at this ⊢; omega
 ·simp
theorem kf_last {l : List Tm} {vars : Int} (h : 0 < (kdsOf l vars).length) : (kdsOf l vars).getD ((kdsOf l vars).length - 1) 0 = kf l vars := by
 rw [kf, List.getLastD_eq_getLast?, List.getLast?_eq_getElem?]
 rfl
theorem kf_nil {l : List Tm} {vars : Int} (h : ¬ 0 < (kdsOf l vars).length) : kf l vars = 0 := by
 have : kdsOf l vars = [] := List.eq_nil_of_length_eq_zero (by omega)
 rw [kf, this]; rfl
theorem C_spec_l2Is (l : List Tm) (vars k : Int) (hl : Few l) (hk : k ≠ 0) (Q : List AV → Prop) : mc.C f_spec_l2Is [⟨L T4, l⟩, ⟨I, vars⟩, ⟨I, k⟩] Q = Q [⟨B, decide (kf l vars = k)⟩] := by
 refine Mc.Ends.c (mc.ends F_spec_l2Is ?_)
 have hlen := kdsOf_len l vars
 simp (contextual := true) (maxSteps := 1000000) (disch := omega) only [↓Sd, ↓So, ↓Sk, ↓den, ↓denA, Sa, Sb, Sc, Se, O1.d, O2.d, O3.d, cmI, arI, envOf, putN, ↓reduceIte, Nat.reduceLT, Nat.reduceSub, Nat.reduceAdd, Int.reduceAdd, Int.reduceEq, Int.reduceLT, Int.reduceLE, arr_pos, arr_neg, tr_spec_l2Is, C_spec_KindsOf l vars hl]
 refine ⟨fun h => ?_, fun h => ?_⟩
 ·rw [kf_last (by omega)]; rfl
 ·rw [kf_nil (by omega)]; exact (decide_eq_false (Ne.symm hk)).symm
theorem C_impl_kindsOf (l : List Tm) (vars : Int) (hl : Few l) (Q : List AV → Prop) : mc.C f_impl_kindsOf [⟨L T4, l⟩, ⟨I, vars⟩] Q = Q [⟨N I, kdsOf l vars⟩] := by
 have := few_lim hl
 refine Mc.Ends.c (mc.ends F_impl_kindsOf ?_)
 simp (contextual := true) (maxSteps := 1000000) (disch := omega) only [↓Sd, ↓So, ↓Sk, ↓den, ↓denA, Sa, Sb, Sc, Se, O1.d, O2.d, O3.d, cmI, arI, envOf, putN, ↓reduceIte, Nat.reduceLT, Nat.reduceSub, Nat.reduceAdd, Int.reduceAdd, Int.reduceEq, Int.reduceLT, Int.reduceLE, arr_pos, arr_neg, tr_impl_kindsOf, C_impl_in]
 unfold kdsOf
 refine ⟨fun h => by rw [if_neg (by omega)], fun h1 => ⟨fun h => by rw [if_neg (by omega)], fun h2 => ?_⟩⟩
 rw [if_pos (by omega)]
 have h1 : 0 ≤ vars ∧ vars ≤ 5 := by omega
 have h2 : 1 ≤ l.length ∧ l.length ≤ 40 := by omega
 refine mc.lp_for (List Int) (fun i s => [⟨I, vars⟩, ⟨L T4, l⟩, ⟨I, (l.length : Int)⟩, ⟨I, (i : Int)⟩, ⟨L I, s⟩]) (fun i s => s.length = i ∧ kds vars (l.drop i) s = kds vars l []) l.length 0 [] _ rfl (Nat.zero_le _) ⟨rfl, rfl⟩ ?_ ?_
 ·rintro i s hi ⟨hs, hk⟩
  simp (contextual := true) (maxSteps := 1000000) (disch := omega) only [↓Sd, ↓So, ↓Sk, ↓den, ↓denA, Sa, Sb, Sc, Se, O1.d, O2.d, O3.d, cmI, arI, envOf, putN, ↓reduceIte, Nat.reduceLT, Nat.reduceSub, Nat.reduceAdd, Int.reduceAdd, Int.reduceEq, Int.reduceLT, Int.reduceLE, arr_pos, arr_neg, C_impl_in, C_impl_parts]
  refine mc.wp_join (fun us => us = [⟨I, vars⟩, ⟨I, if 5 ≤ (l.getD i (0, 0, 0, 0)).1 ∧ (l.getD i (0, 0, 0, 0)).1 ≤ 9 then 2 else 1⟩, ⟨B, decide (kd (l.getD i (0, 0, 0, 0)) s vars ≠ 0)⟩, ⟨L T4, l⟩, ⟨I, (l.length : Int)⟩, ⟨I, (i : Int)⟩, ⟨L I, s⟩]) ?_ ?_
  ·obtain ⟨o, n, a, b, ht⟩ : ∃ o n a b, l.getD i (0, 0, 0, 0) = (o, n, a, b) := ⟨_, _, _, _, rfl⟩
   subst hs
   rw [ht]
   generalize hK : decide (kd (o, n, a, b) s vars ≠ 0) = K
   simp (contextual := true) (maxSteps := 1000000) (disch := omega) only [↓Sd, ↓So, ↓Sk, ↓den, ↓denA, Sa, Sb, Sc, Se, O1.d, O2.d, O3.d, cmI, arI, envOf, putN, ↓reduceIte, Nat.reduceLT, Nat.reduceSub, Nat.reduceAdd, Int.reduceAdd, Int.reduceEq, Int.reduceLT, Int.reduceLE, arr_pos, arr_neg, C_impl_in, C_impl_parts, ht]
   refine ⟨fun h0 => ?_, fun h0 => ⟨fun h1 => ?_, fun h1 => ?_⟩⟩
   ·subst h0; simp only [kd, if_pos] at hK; grind
   ·subst h1; simp only [kd, if_pos] at hK; grind
   ·rw [← hK]; simp only [kd, if_neg h0, if_neg h1]; clear hK hk; grind
  ·rintro _ rfl
   rw [drop_cons (d := (0, 0, 0, 0)) hi] at hk
   simp only [kds] at hk
   simp (contextual := true) (maxSteps := 1000000) (disch := omega) only [↓Sd, ↓So, ↓Sk, ↓den, ↓denA, Sa, Sb, Sc, Se, O1.d, O2.d, O3.d, cmI, arI, envOf, putN, ↓reduceIte, Nat.reduceLT, Nat.reduceSub, Nat.reduceAdd, Int.reduceAdd, Int.reduceEq, Int.reduceLT, Int.reduceLE, arr_pos, arr_neg, ]
   refine ⟨fun h => ?_, fun h => ⟨by simp [hs], ?_⟩⟩
   ·rw [← hk, if_pos (by simpa using h)]; rfl
   ·have h : kd (l.getD i (0, 0, 0, 0)) s vars ≠ 0 := by simpa using h
    rw [← hk, if_neg h, kd_low h]
 ·rintro s ⟨hs, hk⟩
  simp (contextual := true) (maxSteps := 1000000) (disch := omega) only [↓Sd, ↓So, ↓Sk, ↓den, ↓denA, Sa, Sb, Sc, Se, O1.d, O2.d, O3.d, cmI, arI, envOf, putN, ↓reduceIte, Nat.reduceLT, Nat.reduceSub, Nat.reduceAdd, Int.reduceAdd, Int.reduceEq, Int.reduceLT, Int.reduceLE, arr_pos, arr_neg, ]
  rw [← hk, List.drop_length]
  refine ⟨?_, rfl⟩
  cases s with
  | nil => simp at hs; omega
  | cons a s => rfl
theorem C_impl_kindOf (l : List Tm) (vars : Int) (hl : Few l) (Q : List AV → Prop) : mc.C f_impl_kindOf [⟨L T4, l⟩, ⟨I, vars⟩] Q = Q [⟨I, kf l vars⟩] := by
 refine Mc.Ends.c (mc.ends F_impl_kindOf ?_)
 have hlen := kdsOf_len l vars
 simp (contextual := true) (maxSteps := 1000000) (disch := omega) only [↓Sd, ↓So, ↓Sk, ↓den, ↓denA, Sa, Sb, Sc, Se, O1.d, O2.d, O3.d, cmI, arI, envOf, putN, ↓reduceIte, Nat.reduceLT, Nat.reduceSub, Nat.reduceAdd, Int.reduceAdd, Int.reduceEq, Int.reduceLT, Int.reduceLE, arr_pos, arr_neg, tr_impl_kindOf, C_impl_kindsOf l vars hl, List.isEmpty_iff]
 refine ⟨fun h => ?_, fun h => ?_⟩
 ·rw [kf_nil (by rw [h]; simp)]
 ·have h0 : 0 < (kdsOf l vars).length := List.length_pos_iff.2 h
  simp (contextual := true) (maxSteps := 1000000) (disch := omega) only [↓Sd, ↓So, ↓Sk, ↓den, ↓denA, Sa, Sb, Sc, Se, O1.d, O2.d, O3.d, cmI, arI, envOf, putN, ↓reduceIte, Nat.reduceLT, Nat.reduceSub, Nat.reduceAdd, Int.reduceAdd, Int.reduceEq, Int.reduceLT, Int.reduceLE, arr_pos, arr_neg, ]
  exact kf_last h0
def vOk (v : Vr) : Prop := -9999 ≤ v.1 ∧ v.1 ≤ v.2.1 ∧ v.2.1 ≤ 9999 ∧ v.2.1 - v.1 < 20 ∧ v.1 ≤ v.2.2 ∧ v.2.2 ≤ v.2.1
instance (v : Vr) : Decidable (vOk v) := by unfold vOk; infer_instance
theorem C_spec_l2Var (v : Vr) (Q : List AV → Prop) : mc.C f_spec_l2Var [⟨I, v.1⟩, ⟨I, v.2.1⟩, ⟨I, v.2.2⟩] Q = Q [⟨B, decide (vOk v)⟩] := by
 refine Mc.Ends.c (mc.ends F_spec_l2Var ?_)
 generalize hK : decide (vOk v) = K
 simp (contextual := true) (maxSteps := 1000000) (disch := omega) only [↓Sd, ↓So, ↓Sk, ↓den, ↓denA, Sa, Sb, Sc, Se, O1.d, O2.d, O3.d, cmI, arI, envOf, putN, ↓reduceIte, Nat.reduceLT, Nat.reduceSub, Nat.reduceAdd, Int.reduceAdd, Int.reduceEq, Int.reduceLT, Int.reduceLE, arr_pos, arr_neg, tr_spec_l2Var, C_spec_l1In]
 simp only [vOk] at hK
 grind
theorem C_impl_varOk (v : Vr) (Q : List AV → Prop) : mc.C f_impl_varOk [⟨I, v.1⟩, ⟨I, v.2.1⟩, ⟨I, v.2.2⟩] Q = Q [⟨B, decide (vOk v)⟩] := by
 refine Mc.Ends.c (mc.ends F_impl_varOk ?_)
 generalize hK : decide (vOk v) = K
 simp (contextual := true) (maxSteps := 1000000) (disch := omega) only [↓Sd, ↓So, ↓Sk, ↓den, ↓denA, Sa, Sb, Sc, Se, O1.d, O2.d, O3.d, cmI, arI, envOf, putN, ↓reduceIte, Nat.reduceLT, Nat.reduceSub, Nat.reduceAdd, Int.reduceAdd, Int.reduceEq, Int.reduceLT, Int.reduceLE, arr_pos, arr_neg, tr_impl_varOk, C_impl_in]
 simp only [vOk] at hK
 grind
def rStep (r : Ru) (vars : Int) (i : Nat) : Prop := (0 ≤ r.2.1.getD i 0 ∧ r.2.1.getD i 0 ≤ vars - 1) ∧ (0 < i → r.2.1.getD (i - 1) 0 < r.2.1.getD i 0) ∧ kf (r.2.2.getD i []) vars = 1
def rOk (r : Ru) (vars : Int) : Prop := kf r.1 vars = 2 ∧ r.2.1.length = r.2.2.length ∧ ∀ i, i < r.2.1.length → rStep r vars i
instance (r : Ru) (v : Int) (i : Nat) : Decidable (rStep r v i) := by unfold rStep; infer_instance
instance (r : Ru) (v : Int) : Decidable (rOk r v) := by unfold rOk; infer_instance
theorem rOk_asc {r : Ru} {vars : Int} (h : ∀ i, i < r.2.1.length → rStep r vars i) : ∀ i, i < r.2.1.length → (i : Int) ≤ r.2.1.getD i 0 := by
 intro i
 induction i with
 | zero => intro hi; exact (h 0 hi).1.1
 | succ i ih =>
  intro hi
  have h1 := ih (by omega)
  have h2 := (h (i + 1) hi).2.1 (by omega)
  simp only [Nat.add_sub_cancel] at h2
  omega
theorem rOk_few {r : Ru} {vars : Int} (h : ∀ i, i < r.2.1.length → rStep r vars i) : (r.2.1.length : Int) ≤ max vars 0 := by
 rcases Nat.eq_zero_or_pos r.2.1.length with h0 | h0
 ·omega
 ·have h1 := rOk_asc h (r.2.1.length - 1) (by omega)
  have h2 := (h (r.2.1.length - 1) (by omega)).1.2
  omega
theorem C_spec_l2Rule (r : Ru) (vars : Int) (hv : 0 ≤ vars ∧ vars ≤ 5) (hr : FewRu r) (Q : List AV → Prop) : mc.C f_spec_l2Rule [⟨L T4, r.1⟩, ⟨L I, r.2.1⟩, ⟨L (L T4), r.2.2⟩, ⟨I, vars⟩] Q = Q [⟨B, decide (rOk r vars)⟩] := by
 obtain ⟨h1, h2, h3, h4⟩ := hr
 have b2 := few_lim h2
 have b3 := few_lim h3
 refine Mc.Ends.c (mc.ends F_spec_l2Rule ?_)
 generalize hK : decide (rOk r vars) = K
 simp (contextual := true) (maxSteps := 1000000) (disch := omega) only [↓Sd, ↓So, ↓Sk, ↓den, ↓denA, Sa, Sb, Sc, Se, O1.d, O2.d, O3.d, cmI, arI, envOf, putN, ↓reduceIte, Nat.reduceLT, Nat.reduceSub, Nat.reduceAdd, Int.reduceAdd, Int.reduceEq, Int.reduceLT, Int.reduceLE, arr_pos, arr_neg, tr_spec_l2Rule, C_spec_l2Is _ _ 2 h1 (by omega)]
 refine ⟨fun g => ?_, fun g1 => ⟨fun g => ?_, fun g2 => ⟨fun g => ?_, fun g3 => ?_⟩⟩⟩
 ·rw [← hK, decide_eq_false]; exact fun h => g h.1
 ·rw [← hK, decide_eq_false]; exact fun h => g (by rw [h.2.1])
 ·rw [← hK, decide_eq_false]; exact fun h => by have := rOk_few h.2.2; omega
 refine lp_all (fun i => [⟨I, vars⟩, ⟨I, (i : Int)⟩, ⟨L T4, r.1⟩, ⟨L I, r.2.1⟩, ⟨L (L T4), r.2.2⟩]) (rStep r vars) r.2.1.length _ rfl ?_ ?_
 ·intro i hi
  have hno : ¬ rStep r vars i → false = K := fun h => by rw [← hK, decide_eq_false]; exact fun h1 => h (h1.2.2 i hi)
  have h5 := h4 (r.2.2.getD i []) (getD_mem (by omega))
  simp (contextual := true) (maxSteps := 1000000) (disch := omega) only [↓Sd, ↓So, ↓Sk, ↓den, ↓denA, Sa, Sb, Sc, Se, O1.d, O2.d, O3.d, cmI, arI, envOf, putN, ↓reduceIte, Nat.reduceLT, Nat.reduceSub, Nat.reduceAdd, Int.reduceAdd, Int.reduceEq, Int.reduceLT, Int.reduceLE, arr_pos, arr_neg, ↓wpJoin, C_spec_l1In, C_spec_l2Is _ _ 1 h5 (by omega)]
  simp only [rStep] at hno ⊢
  grind
 ·intro h
  simp (contextual := true) (maxSteps := 1000000) (disch := omega) only [↓Sd, ↓So, ↓Sk, ↓den, ↓denA, Sa, Sb, Sc, Se, O1.d, O2.d, O3.d, cmI, arI, envOf, putN, ↓reduceIte, Nat.reduceLT, Nat.reduceSub, Nat.reduceAdd, Int.reduceAdd, Int.reduceEq, Int.reduceLT, Int.reduceLE, arr_pos, arr_neg, ]
  rw [← hK, decide_eq_true]; exact ⟨g1, by omega, h⟩
theorem C_impl_ruleOk (r : Ru) (vars : Int) (hv : 0 ≤ vars ∧ vars ≤ 5) (hr : FewRu r) (Q : List AV → Prop) : mc.C f_impl_ruleOk [⟨L T4, r.1⟩, ⟨L I, r.2.1⟩, ⟨L (L T4), r.2.2⟩, ⟨I, vars⟩] Q = Q [⟨B, decide (rOk r vars)⟩] := by
 obtain ⟨h1, h2, h3, h4⟩ := hr
 have b2 := few_lim h2
 have b3 := few_lim h3
 refine Mc.Ends.c (mc.ends F_impl_ruleOk ?_)
 generalize hK : decide (rOk r vars) = K
 simp (contextual := true) (maxSteps := 1000000) (disch := omega) only [↓Sd, ↓So, ↓Sk, ↓den, ↓denA, Sa, Sb, Sc, Se, O1.d, O2.d, O3.d, cmI, arI, envOf, putN, ↓reduceIte, Nat.reduceLT, Nat.reduceSub, Nat.reduceAdd, Int.reduceAdd, Int.reduceEq, Int.reduceLT, Int.reduceLE, arr_pos, arr_neg, tr_impl_ruleOk, C_impl_kindOf _ _ h1]
 refine ⟨fun g => ?_, fun g1 => ⟨fun g => ?_, fun g2 => ?_⟩⟩
 ·rw [← hK, decide_eq_false]; exact fun h => g h.1
 ·rw [← hK, decide_eq_false]; exact fun h => g (by rw [h.2.1])
 refine lp_all (fun i => [⟨I, vars⟩, ⟨L I, r.2.1⟩, ⟨I, (r.2.2.length : Int)⟩, ⟨I, (i : Int)⟩, ⟨L T4, r.1⟩, ⟨L I, r.2.1⟩, ⟨L (L T4), r.2.2⟩]) (rStep r vars) r.2.1.length _ rfl ?_ ?_
 ·intro i hi
  have hno : ¬ rStep r vars i → false = K := fun h => by rw [← hK, decide_eq_false]; exact fun h1 => h (h1.2.2 i hi)
  have h5 := h4 (r.2.2.getD i []) (getD_mem (by omega))
  simp (contextual := true) (maxSteps := 1000000) (disch := omega) only [↓Sd, ↓So, ↓Sk, ↓den, ↓denA, Sa, Sb, Sc, Se, O1.d, O2.d, O3.d, cmI, arI, envOf, putN, ↓reduceIte, Nat.reduceLT, Nat.reduceSub, Nat.reduceAdd, Int.reduceAdd, Int.reduceEq, Int.reduceLT, Int.reduceLE, arr_pos, arr_neg, ↓wpJoin, C_impl_in, C_impl_kindOf _ _ h5]
  simp only [rStep] at hno ⊢
  grind
 ·intro h
  simp (contextual := true) (maxSteps := 1000000) (disch := omega) only [↓Sd, ↓So, ↓Sk, ↓den, ↓denA, Sa, Sb, Sc, Se, O1.d, O2.d, O3.d, cmI, arI, envOf, putN, ↓reduceIte, Nat.reduceLT, Nat.reduceSub, Nat.reduceAdd, Int.reduceAdd, Int.reduceEq, Int.reduceLT, Int.reduceLE, arr_pos, arr_neg, ]
  rw [← hK, decide_eq_true]; exact ⟨g1, by omega, h⟩
def wd (v : Vr) : Int := v.2.1 - v.1 + 1
def sz (l : List Vr) : Int := l.foldl (fun n v => n * wd v) 1
def valid (s : Sy) : Prop := (1 ≤ s.1.length ∧ s.1.length ≤ 5) ∧ s.2.length ≤ 8 ∧ (∀ v ∈ s.1, vOk v) ∧ (∀ r ∈ s.2, rOk r s.1.length) ∧ sz s.1 ≤ 400
instance (s : Sy) : Decidable (valid s) := by unfold valid; infer_instance
theorem wd_ok {v : Vr} (h : vOk v) : 1 ≤ wd v ∧ wd v ≤ 20 := by unfold vOk at h; unfold wd; omega
theorem szN (l : List Vr) (n : Nat) : sz (l.take (n + 1)) = sz (l.take n) * (match l[n]? with | some v => wd v | none => 1) := by
 unfold sz
 rw [List.take_add_one, List.foldl_append]
 cases l[n]? <;> simp
theorem sz_next {l : List Vr} {i : Nat} {d : Vr} (h : i < l.length) : sz (l.take (i + 1)) = sz (l.take i) * wd (l.getD i d) := by
 rw [szN, List.getElem?_eq_getElem h, getD_lt h]
theorem mul_le {a b : Int} {p : Nat} (h1 : 1 ≤ a) (h2 : a ≤ 20 ^ p) (h3 : 1 ≤ b ∧ b ≤ 20) : 1 ≤ a * b ∧ a * b ≤ 20 ^ (p + 1) := by
 constructor
 ·have := Int.mul_le_mul h1 h3.1 (by omega) (by omega); simpa using this
 ·rw [Int.pow_succ]; exact Int.mul_le_mul h2 h3.2 (by omega) (by have : (0:Int) < 20 ^ p := Int.pow_pos (by omega); omega)
theorem sz_pos : ∀ (l : List Vr), (∀ v ∈ l, vOk v) → ∀ i, i ≤ l.length → 1 ≤ sz (l.take i) ∧ sz (l.take i) ≤ 20 ^ i := by
 intro l hl i
 induction i with
 | zero => intro _; simp [sz]
 | succ i ih =>
  intro hi
  rw [sz_next (d := (0, 0, 0)) (by omega)]
  exact mul_le (ih (by omega)).1 (ih (by omega)).2 (wd_ok (hl _ (getD_mem (by omega))))
theorem mul_bd {a b : Int} (h1 : 1 ≤ a ∧ a ≤ 3200000) (h3 : 1 ≤ b ∧ b ≤ 20) : 1 ≤ a * b ∧ a * b ≤ 64000000 := by
 constructor
 ·have := Int.mul_le_mul h1.1 h3.1 (by omega) (by omega); simpa using this
 ·have := Int.mul_le_mul h1.2 h3.2 (by omega) (by omega); omega
theorem pow20 {i : Nat} (h : i ≤ 5) : (20 : Int) ^ i ≤ 3200000 := by
 have : i = 0 ∨ i = 1 ∨ i = 2 ∨ i = 3 ∨ i = 4 ∨ i = 5 := by omega
 rcases this with rfl | rfl | rfl | rfl | rfl | rfl <;> decide
theorem all_get {α : Type} {l : List α} {p : α → Prop} {d : α} (h : ∀ i, i < l.length → p (l.getD i d)) : ∀ x ∈ l, p x := by
 intro x hx
 obtain ⟨i, hi, rfl⟩ := List.getElem_of_mem hx
 have := h i hi
 rwa [getD_lt hi] at this
theorem sz_get {l : List Vr} {i : Nat} (h5 : l.length ≤ 5) (hi : i ≤ l.length) (h : ∀ j, j < i → vOk (l.getD j (0, 0, 0))) : 1 ≤ sz (l.take i) ∧ sz (l.take i) ≤ 3200000 := by
 have h1 := sz_pos (l.take i) (fun v hv => by
  obtain ⟨j, hj, rfl⟩ := List.getElem_of_mem hv
  rw [List.length_take] at hj
  have := h j (by omega)
  rw [getD_lt (by omega)] at this
  simpa using this) i (by simp; omega)
 rw [List.take_take, Nat.min_self] at h1
 have := pow20 (i := i) (by omega)
 omega
theorem C_spec_SystemValid (s : Sy) (hs : FewSy s) (Q : List AV → Prop) : mc.C f_spec_SystemValid [⟨L V3, s.1⟩, ⟨L TR, s.2⟩] Q = Q [⟨B, decide (valid s)⟩] := by
 obtain ⟨h1, h2, h3⟩ := hs
 have b1 := few_lim h1
 have b2 := few_lim h2
 refine Mc.Ends.c (mc.ends F_spec_SystemValid ?_)
 generalize hK : decide (valid s) = K
 simp (contextual := true) (maxSteps := 1000000) (disch := omega) only [↓Sd, ↓So, ↓Sk, ↓den, ↓denA, Sa, Sb, Sc, Se, O1.d, O2.d, O3.d, cmI, arI, envOf, putN, ↓reduceIte, Nat.reduceLT, Nat.reduceSub, Nat.reduceAdd, Int.reduceAdd, Int.reduceEq, Int.reduceLT, Int.reduceLE, arr_pos, arr_neg, tr_spec_SystemValid, C_spec_l1In]
 refine ⟨fun g => ?_, fun g1 => ⟨fun g => ?_, fun g2 => ?_⟩⟩
 ·rw [← hK, decide_eq_false]; exact fun h => g (by have := h.1; omega)
 ·rw [← hK, decide_eq_false]; exact fun h => by have := h.2.1; omega
 refine mc.lp_for Int (fun i n => [⟨I, n⟩, ⟨I, (i : Int)⟩, ⟨L V3, s.1⟩, ⟨L TR, s.2⟩]) (fun i n => n = sz (s.1.take i) ∧ ∀ j, j < i → vOk (s.1.getD j (0, 0, 0))) s.1.length 0 1 _ rfl (Nat.zero_le _) ⟨rfl, fun j hj => absurd hj (Nat.not_lt_zero _)⟩ ?_ ?_
 ·rintro i n hi ⟨rfl, hv⟩
  have hn := sz_get (by omega) (by omega) hv
  have hno : ¬ vOk (s.1.getD i (0, 0, 0)) → false = K := fun h => by rw [← hK, decide_eq_false]; exact fun h1 => h (h1.2.2.1 _ (getD_mem hi))
  simp (contextual := true) (maxSteps := 1000000) (disch := omega) only [↓Sd, ↓So, ↓Sk, ↓den, ↓denA, Sa, Sb, Sc, Se, O1.d, O2.d, O3.d, cmI, arI, envOf, putN, ↓reduceIte, Nat.reduceLT, Nat.reduceSub, Nat.reduceAdd, Int.reduceAdd, Int.reduceEq, Int.reduceLT, Int.reduceLE, arr_pos, arr_neg, C_spec_l2Var]
  refine ⟨hno, fun hy => ?_⟩
  have hw := wd_ok hy
  have hm := mul_bd hn hw
  have hw2 := hy
  unfold vOk at hw2
  unfold wd at hm
  simp (contextual := true) (maxSteps := 1000000) (disch := omega) only [↓Sd, ↓So, ↓Sk, ↓den, ↓denA, Sa, Sb, Sc, Se, O1.d, O2.d, O3.d, cmI, arI, envOf, putN, ↓reduceIte, Nat.reduceLT, Nat.reduceSub, Nat.reduceAdd, Int.reduceAdd, Int.reduceEq, Int.reduceLT, Int.reduceLE, arr_pos, arr_neg, ]
  refine ⟨by rw [sz_next (d := (0, 0, 0)) hi]; rfl, fun j hj => ?_⟩
  rcases Nat.lt_succ_iff_lt_or_eq.1 hj with h | rfl
  ·exact hv j h
  ·exact hy
 ·rintro n ⟨rfl, hv⟩
  rw [List.take_length]
  have hn := sz_get (by omega) (Nat.le_refl _) hv
  rw [List.take_length] at hn
  simp (contextual := true) (maxSteps := 1000000) (disch := omega) only [↓Sd, ↓So, ↓Sk, ↓den, ↓denA, Sa, Sb, Sc, Se, O1.d, O2.d, O3.d, cmI, arI, envOf, putN, ↓reduceIte, Nat.reduceLT, Nat.reduceSub, Nat.reduceAdd, Int.reduceAdd, Int.reduceEq, Int.reduceLT, Int.reduceLE, arr_pos, arr_neg, ]
  refine lp_all (fun i => [⟨I, sz s.1⟩, ⟨I, (i : Int)⟩, ⟨L V3, s.1⟩, ⟨L TR, s.2⟩]) (fun i => rOk (s.2.getD i ([], [], [])) s.1.length) s.2.length _ rfl ?_ ?_
  ·intro i hi
   have hno : ¬ rOk (s.2.getD i ([], [], [])) s.1.length → false = K := fun h => by rw [← hK, decide_eq_false]; exact fun h1 => h (h1.2.2.2.1 _ (getD_mem hi))
   have h4 := h3 _ (getD_mem (d := ([], [], [])) hi)
   simp (contextual := true) (maxSteps := 1000000) (disch := omega) only [↓Sd, ↓So, ↓Sk, ↓den, ↓denA, Sa, Sb, Sc, Se, O1.d, O2.d, O3.d, cmI, arI, envOf, putN, ↓reduceIte, Nat.reduceLT, Nat.reduceSub, Nat.reduceAdd, Int.reduceAdd, Int.reduceEq, Int.reduceLT, Int.reduceLE, arr_pos, arr_neg, C_spec_l2Rule (s.2.getD i ([], [], [])) (s.1.length : Int) (by omega) h4]
   exact hno
  ·intro h
   simp (contextual := true) (maxSteps := 1000000) (disch := omega) only [↓Sd, ↓So, ↓Sk, ↓den, ↓denA, Sa, Sb, Sc, Se, O1.d, O2.d, O3.d, cmI, arI, envOf, putN, ↓reduceIte, Nat.reduceLT, Nat.reduceSub, Nat.reduceAdd, Int.reduceAdd, Int.reduceEq, Int.reduceLT, Int.reduceLE, arr_pos, arr_neg, ]
   rw [← hK]
   have a1 := all_get hv
   have a2 := all_get (p := fun r => rOk r s.1.length) h
   by_cases h4 : sz s.1 ≤ 400
   ·rw [decide_eq_true h4, decide_eq_true]; exact ⟨by omega, by omega, a1, a2, h4⟩
   ·rw [decide_eq_false h4, decide_eq_false]; exact fun h => h4 h.2.2.2.2
theorem C_impl_size (l : List Vr) (h5 : l.length ≤ 5) (hv : ∀ v ∈ l, vOk v) (Q : List AV → Prop) : mc.C f_impl_size [⟨L V3, l⟩] Q = Q [⟨I, sz l⟩] := by
 refine Mc.Ends.c (mc.ends F_impl_size ?_)
 simp (contextual := true) (maxSteps := 1000000) (disch := omega) only [↓Sd, ↓So, ↓Sk, ↓den, ↓denA, Sa, Sb, Sc, Se, O1.d, O2.d, O3.d, cmI, arI, envOf, putN, ↓reduceIte, Nat.reduceLT, Nat.reduceSub, Nat.reduceAdd, Int.reduceAdd, Int.reduceEq, Int.reduceLT, Int.reduceLE, arr_pos, arr_neg, tr_impl_size]
 refine mc.lp_for Int (fun i n => [⟨I, n⟩, ⟨L V3, l⟩, ⟨I, (l.length : Int)⟩, ⟨I, (i : Int)⟩]) (fun i n => n = sz (l.take i)) l.length 0 1 _ rfl (Nat.zero_le _) rfl ?_ ?_
 ·rintro i n hi rfl
  have hn := sz_get (l := l) h5 (by omega) fun j hj => hv _ (getD_mem (Nat.lt_trans hj hi))
  have hy := hv _ (getD_mem (d := (0, 0, 0)) hi)
  have hw := wd_ok hy
  have hm := mul_bd hn hw
  unfold vOk at hy
  unfold wd at hm
  simp (contextual := true) (maxSteps := 1000000) (disch := omega) only [↓Sd, ↓So, ↓Sk, ↓den, ↓denA, Sa, Sb, Sc, Se, O1.d, O2.d, O3.d, cmI, arI, envOf, putN, ↓reduceIte, Nat.reduceLT, Nat.reduceSub, Nat.reduceAdd, Int.reduceAdd, Int.reduceEq, Int.reduceLT, Int.reduceLE, arr_pos, arr_neg, ]
  rw [sz_next (d := (0, 0, 0)) hi]; rfl
 ·rintro n rfl
  simp (contextual := true) (maxSteps := 1000000) (disch := omega) only [↓Sd, ↓So, ↓Sk, ↓den, ↓denA, Sa, Sb, Sc, Se, O1.d, O2.d, O3.d, cmI, arI, envOf, putN, ↓reduceIte, Nat.reduceLT, Nat.reduceSub, Nat.reduceAdd, Int.reduceAdd, Int.reduceEq, Int.reduceLT, Int.reduceLE, arr_pos, arr_neg, ]
  rw [List.take_length]
theorem C_impl_SystemValid (s : Sy) (hs : FewSy s) (Q : List AV → Prop) : mc.C f_impl_SystemValid [⟨L V3, s.1⟩, ⟨L TR, s.2⟩] Q = Q [⟨B, decide (valid s)⟩] := by
 obtain ⟨h1, h2, h3⟩ := hs
 have b1 := few_lim h1
 have b2 := few_lim h2
 refine Mc.Ends.c (mc.ends F_impl_SystemValid ?_)
 generalize hK : decide (valid s) = K
 simp (contextual := true) (maxSteps := 1000000) (disch := omega) only [↓Sd, ↓So, ↓Sk, ↓den, ↓denA, Sa, Sb, Sc, Se, O1.d, O2.d, O3.d, cmI, arI, envOf, putN, ↓reduceIte, Nat.reduceLT, Nat.reduceSub, Nat.reduceAdd, Int.reduceAdd, Int.reduceEq, Int.reduceLT, Int.reduceLE, arr_pos, arr_neg, tr_impl_SystemValid]
 refine mc.wp_join (fun us => us = [⟨L V3, s.1⟩, ⟨L TR, s.2⟩] ∧ (1 ≤ s.1.length ∧ s.1.length ≤ 5) ∧ s.2.length ≤ 8 ∧ (∀ v ∈ s.1, vOk v) ∧ sz s.1 ≤ 400) ?_ ?_
 ·simp (contextual := true) (maxSteps := 1000000) (disch := omega) only [↓Sd, ↓So, ↓Sk, ↓den, ↓denA, Sa, Sb, Sc, Se, O1.d, O2.d, O3.d, cmI, arI, envOf, putN, ↓reduceIte, Nat.reduceLT, Nat.reduceSub, Nat.reduceAdd, Int.reduceAdd, Int.reduceEq, Int.reduceLT, Int.reduceLE, arr_pos, arr_neg, C_impl_in]
  refine ⟨fun g => ?_, fun g1 => ⟨fun g => ?_, fun g2 => ?_⟩⟩
  ·rw [← hK, decide_eq_false]; exact fun h => g (by have := h.1; omega)
  ·rw [← hK, decide_eq_false]; exact fun h => by have := h.2.1; omega
  refine lp_all (fun i => [⟨L V3, s.1⟩, ⟨I, (s.1.length : Int)⟩, ⟨I, (i : Int)⟩, ⟨L V3, s.1⟩, ⟨L TR, s.2⟩]) (fun i => vOk (s.1.getD i (0, 0, 0))) s.1.length _ rfl ?_ ?_
  ·intro i hi
   have hno : ¬ vOk (s.1.getD i (0, 0, 0)) → false = K := fun h => by rw [← hK, decide_eq_false]; exact fun h1 => h (h1.2.2.1 _ (getD_mem hi))
   simp (contextual := true) (maxSteps := 1000000) (disch := omega) only [↓Sd, ↓So, ↓Sk, ↓den, ↓denA, Sa, Sb, Sc, Se, O1.d, O2.d, O3.d, cmI, arI, envOf, putN, ↓reduceIte, Nat.reduceLT, Nat.reduceSub, Nat.reduceAdd, Int.reduceAdd, Int.reduceEq, Int.reduceLT, Int.reduceLE, arr_pos, arr_neg, C_impl_varOk]
   exact hno
  ·intro hv
   have hv := all_get hv
   simp (contextual := true) (maxSteps := 1000000) (disch := omega) only [↓Sd, ↓So, ↓Sk, ↓den, ↓denA, Sa, Sb, Sc, Se, O1.d, O2.d, O3.d, cmI, arI, envOf, putN, ↓reduceIte, Nat.reduceLT, Nat.reduceSub, Nat.reduceAdd, Int.reduceAdd, Int.reduceEq, Int.reduceLT, Int.reduceLE, arr_pos, arr_neg, C_impl_size s.1 (by omega) hv]
   refine ⟨fun h => ?_, fun h => ⟨by omega, by omega, hv, by omega⟩⟩
   rw [← hK, decide_eq_false]; exact fun h1 => by have := h1.2.2.2.2; omega
 rintro _ ⟨rfl, g1, g2, g3, g4⟩
 simp (contextual := true) (maxSteps := 1000000) (disch := omega) only [↓Sd, ↓So, ↓Sk, ↓den, ↓denA, Sa, Sb, Sc, Se, O1.d, O2.d, O3.d, cmI, arI, envOf, putN, ↓reduceIte, Nat.reduceLT, Nat.reduceSub, Nat.reduceAdd, Int.reduceAdd, Int.reduceEq, Int.reduceLT, Int.reduceLE, arr_pos, arr_neg, ]
 refine lp_all (fun i => [⟨L TR, s.2⟩, ⟨I, (s.2.length : Int)⟩, ⟨I, (i : Int)⟩, ⟨L V3, s.1⟩, ⟨L TR, s.2⟩]) (fun i => rOk (s.2.getD i ([], [], [])) s.1.length) s.2.length _ rfl ?_ ?_
 ·intro i hi
  have hno : ¬ rOk (s.2.getD i ([], [], [])) s.1.length → false = K := fun h => by rw [← hK, decide_eq_false]; exact fun h1 => h (h1.2.2.2.1 _ (getD_mem hi))
  have h4 := h3 _ (getD_mem (d := ([], [], [])) hi)
  simp (contextual := true) (maxSteps := 1000000) (disch := omega) only [↓Sd, ↓So, ↓Sk, ↓den, ↓denA, Sa, Sb, Sc, Se, O1.d, O2.d, O3.d, cmI, arI, envOf, putN, ↓reduceIte, Nat.reduceLT, Nat.reduceSub, Nat.reduceAdd, Int.reduceAdd, Int.reduceEq, Int.reduceLT, Int.reduceLE, arr_pos, arr_neg, C_impl_ruleOk (s.2.getD i ([], [], [])) (s.1.length : Int) (by omega) h4]
  intro h
  have := hno h
  have h0 : (i : Int) ≥ 0 := by omega
  simpa [h0] using this
 ·intro h
  simp (contextual := true) (maxSteps := 1000000) (disch := omega) only [↓Sd, ↓So, ↓Sk, ↓den, ↓denA, Sa, Sb, Sc, Se, O1.d, O2.d, O3.d, cmI, arI, envOf, putN, ↓reduceIte, Nat.reduceLT, Nat.reduceSub, Nat.reduceAdd, Int.reduceAdd, Int.reduceEq, Int.reduceLT, Int.reduceLE, arr_pos, arr_neg, ]
  rw [← hK]
  have a2 := all_get (p := fun r => rOk r s.1.length) h
  rw [decide_eq_true (show valid s from ⟨g1, g2, g3, a2, g4⟩)]
  rfl
def hd (n : Int) : Int := if n > 9999 then 9999 else if n < -9999 then -9999 else n
def doM (o a b : Int) : Int :=
 if o = 2 then hd (a + b) else if o = 3 then hd (a - b) else if o = 4 then hd (a * b)
 else if o = 5 then (if a < b then 1 else 0) else if o = 6 then (if a = b then 1 else 0)
 else if o = 7 then 1 - a else if o = 8 then a * b else (if a + b > 0 then 1 else 0)
def Bd4 (n : Int) : Prop := -9999 ≤ n ∧ n ≤ 9999
def Bit (n : Int) : Prop := n = 0 ∨ n = 1
theorem hd_bd (n : Int) : Bd4 (hd n) := by
 unfold hd Bd4
 split
 ·omega
 ·split <;> omega
theorem mul4 {a b : Int} (ha : Bd4 a) (hb : Bd4 b) : -100000000 ≤ a * b ∧ a * b ≤ 100000000 := by
 unfold Bd4 at ha hb
 have h1 : a.natAbs ≤ 9999 := by omega
 have h2 : b.natAbs ≤ 9999 := by omega
 have h3 : (a * b).natAbs ≤ 9999 * 9999 := by rw [Int.natAbs_mul]; exact Nat.mul_le_mul h1 h2
 omega
theorem C_spec_l1Held (n : Int) (Q : List AV → Prop) : mc.C f_spec_l1Held [⟨I, n⟩] Q = Q [⟨I, hd n⟩] := by
 refine Mc.Ends.c (mc.ends F_spec_l1Held ?_)
 generalize hK : hd n = K
 simp (contextual := true) (maxSteps := 1000000) (disch := omega) only [↓Sd, ↓So, ↓Sk, ↓den, ↓denA, Sa, Sb, Sc, Se, O1.d, O2.d, O3.d, cmI, arI, envOf, putN, ↓reduceIte, Nat.reduceLT, Nat.reduceSub, Nat.reduceAdd, Int.reduceAdd, Int.reduceEq, Int.reduceLT, Int.reduceLE, arr_pos, arr_neg, tr_spec_l1Held]
 unfold hd at hK
 grind
theorem C_impl_held (n : Int) (Q : List AV → Prop) : mc.C f_impl_held [⟨I, n⟩] Q = Q [⟨I, hd n⟩] := by
 refine Mc.Ends.c (mc.ends F_impl_held ?_)
 generalize hK : hd n = K
 simp (contextual := true) (maxSteps := 1000000) (disch := omega) only [↓Sd, ↓So, ↓Sk, ↓den, ↓denA, Sa, Sb, Sc, Se, O1.d, O2.d, O3.d, cmI, arI, envOf, putN, ↓reduceIte, Nat.reduceLT, Nat.reduceSub, Nat.reduceAdd, Int.reduceAdd, Int.reduceEq, Int.reduceLT, Int.reduceLE, arr_pos, arr_neg, tr_impl_held]
 unfold hd at hK
 grind
theorem C_spec_l1Truth (b : Bool) (Q : List AV → Prop) : mc.C f_spec_l1Truth [⟨B, b⟩] Q = Q [⟨I, if b = true then 1 else 0⟩] := by
 refine Mc.Ends.c (mc.ends F_spec_l1Truth ?_)
 generalize hK : (if b = true then (1 : Int) else 0) = K
 simp (contextual := true) (maxSteps := 1000000) (disch := omega) only [↓Sd, ↓So, ↓Sk, ↓den, ↓denA, Sa, Sb, Sc, Se, O1.d, O2.d, O3.d, cmI, arI, envOf, putN, ↓reduceIte, Nat.reduceLT, Nat.reduceSub, Nat.reduceAdd, Int.reduceAdd, Int.reduceEq, Int.reduceLT, Int.reduceLE, arr_pos, arr_neg, tr_spec_l1Truth]
 grind
theorem C_impl_bit (b : Bool) (Q : List AV → Prop) : mc.C f_impl_bit [⟨B, b⟩] Q = Q [⟨I, if b = true then 1 else 0⟩] := by
 refine Mc.Ends.c (mc.ends F_impl_bit ?_)
 generalize hK : (if b = true then (1 : Int) else 0) = K
 simp (contextual := true) (maxSteps := 1000000) (disch := omega) only [↓Sd, ↓So, ↓Sk, ↓den, ↓denA, Sa, Sb, Sc, Se, O1.d, O2.d, O3.d, cmI, arI, envOf, putN, ↓reduceIte, Nat.reduceLT, Nat.reduceSub, Nat.reduceAdd, Int.reduceAdd, Int.reduceEq, Int.reduceLT, Int.reduceLE, arr_pos, arr_neg, tr_impl_bit]
 grind
theorem C_spec_l1Do (o a b : Int) (ha : Bd4 a) (hb : Bd4 b) (Q : List AV → Prop) : mc.C f_spec_l1Do [⟨I, o⟩, ⟨I, a⟩, ⟨I, b⟩] Q = Q [⟨I, doM o a b⟩] := by
 have hm := mul4 ha hb
 unfold Bd4 at ha hb
 refine Mc.Ends.c (mc.ends F_spec_l1Do ?_)
 generalize hK : doM o a b = K
 simp (contextual := true) (maxSteps := 1000000) (disch := omega) only [↓Sd, ↓So, ↓Sk, ↓den, ↓denA, Sa, Sb, Sc, Se, O1.d, O2.d, O3.d, cmI, arI, envOf, putN, ↓reduceIte, Nat.reduceLT, Nat.reduceSub, Nat.reduceAdd, Int.reduceAdd, Int.reduceEq, Int.reduceLT, Int.reduceLE, arr_pos, arr_neg, tr_spec_l1Do, C_spec_l1Held, C_spec_l1Truth]
 unfold doM at hK
 grind (splits := 30)
theorem C_impl_do (o a b : Int) (ha : Bd4 a) (hb : Bd4 b) (ho : 2 ≤ o ∧ o ≤ 9) (h8 : 8 ≤ o → Bit a ∧ Bit b) (Q : List AV → Prop) : mc.C f_impl_do [⟨I, o⟩, ⟨I, a⟩, ⟨I, b⟩] Q = Q [⟨I, doM o a b⟩] := by
 have hm := mul4 ha hb
 unfold Bd4 at ha hb
 refine Mc.Ends.c (mc.ends F_impl_do ?_)
 generalize hK : doM o a b = K
 simp (contextual := true) (maxSteps := 1000000) (disch := omega) only [↓Sd, ↓So, ↓Sk, ↓den, ↓denA, Sa, Sb, Sc, Se, O1.d, O2.d, O3.d, cmI, arI, envOf, putN, ↓reduceIte, Nat.reduceLT, Nat.reduceSub, Nat.reduceAdd, Int.reduceAdd, Int.reduceEq, Int.reduceLT, Int.reduceLE, arr_pos, arr_neg, tr_impl_do, C_impl_held, C_impl_bit]
 unfold doM at hK
 unfold Bit at h8
 grind (splits := 30)
theorem doM_bd {o a b : Int} (ha : Bd4 a) (hb : Bd4 b) (h7 : 7 ≤ o → Bit a ∧ Bit b) : Bd4 (doM o a b) := by
 unfold doM
 have h1 := hd_bd (a + b); have h2 := hd_bd (a - b); have h3 := hd_bd (a * b)
 unfold Bd4 Bit at *
 grind (splits := 30)
theorem doM_bit {o a b : Int} (ho : 5 ≤ o) (h7 : 7 ≤ o → Bit a ∧ Bit b) : Bit (doM o a b) := by
 unfold doM
 unfold Bit at *
 grind
def ev1 (st : List Int) (t : Tm) (vs : List Int) : Int :=
 if t.1 = 0 then t.2.1 else if t.1 = 1 then st.getD t.2.1.toNat 0 else doM t.1 (vs.getD t.2.2.1.toNat 0) (vs.getD t.2.2.2.toNat 0)
def evs (st : List Int) : List Tm → List Int → List Int
 | [], vs => vs
 | t :: l, vs => evs st l (vs ++ [ev1 st t vs])
def evl (l : List Tm) (st : List Int) : Int := (evs st l []).getD (l.length - 1) 0
def KV (ks vs : List Int) : Prop := ks.length = vs.length ∧ ∀ j, j < vs.length → Bd4 (vs.getD j 0) ∧ (ks.getD j 0 = 2 → Bit (vs.getD j 0))
def Bds (st : List Int) : Prop := ∀ j, j < st.length → Bd4 (st.getD j 0)
theorem getD_snoc {l : List Int} {x : Int} {j : Nat} : (l ++ [x]).getD j 0 = if j < l.length then l.getD j 0 else if j = l.length then x else 0 := by
 simp only [List.getD_eq_getElem?_getD, List.getElem?_append]
 by_cases h1 : j < l.length
 ·simp [h1]
 ·by_cases h2 : j = l.length
  ·simp [h2]
  ·have : (j - l.length) ≠ 0 := by omega
   simp [h1, h2, List.getElem?_singleton, this]
theorem of_ite_ne {p : Prop} [Decidable p] {x : Int} (h : (if p then x else 0) ≠ 0) : p := Classical.byContradiction fun hn => h (if_neg hn)
theorem kd_ne {t : Tm} {ks : List Int} {vars : Int} (h : kd t ks vars ≠ 0) : (t.1 = 0 ∧ Bd4 t.2.1) ∨ (t.1 = 1 ∧ 0 ≤ t.2.1 ∧ t.2.1 < vars) ∨
  ((2 ≤ t.1 ∧ t.1 ≤ 9) ∧ (0 ≤ t.2.2.1 ∧ t.2.2.1 < ks.length) ∧ (0 ≤ t.2.2.2 ∧ t.2.2.2 < ks.length) ∧ (7 ≤ t.1 → ks.getD t.2.2.1.toNat 0 = 2 ∧ ks.getD t.2.2.2.toNat 0 = 2)) := by
 unfold kd at h
 split at h
 ·rename_i h0
  split at h
  ·rename_i h1; exact .inl ⟨h0, h1.1, h1.2.1⟩
  ·exact absurd rfl h
 ·split at h
  ·rename_i h0
   split at h
   ·rename_i h1; exact .inr (.inl ⟨h0, h1.1, by omega⟩)
   ·exact absurd rfl h
  ·obtain ⟨a1, a2, a3, a4, a5, a6, a7, a8⟩ := of_ite_ne h
   exact .inr (.inr ⟨⟨a1, a2⟩, a4, a5, fun h7 => by rw [if_pos h7] at a6 a7; exact ⟨a6, a7⟩⟩)
theorem KV.args {ks vs st : List Int} {t : Tm} (hkv : KV ks vs) (h : (2 ≤ t.1 ∧ t.1 ≤ 9) ∧ (0 ≤ t.2.2.1 ∧ t.2.2.1 < ks.length) ∧ (0 ≤ t.2.2.2 ∧ t.2.2.2 < ks.length) ∧ (7 ≤ t.1 → ks.getD t.2.2.1.toNat 0 = 2 ∧ ks.getD t.2.2.2.toNat 0 = 2)) :
  Bd4 (vs.getD t.2.2.1.toNat 0) ∧ Bd4 (vs.getD t.2.2.2.toNat 0) ∧ (7 ≤ t.1 → Bit (vs.getD t.2.2.1.toNat 0) ∧ Bit (vs.getD t.2.2.2.toNat 0)) := by
 obtain ⟨h1, h2, h3, h4⟩ := h
 have hl := hkv.1
 have g1 := hkv.2 t.2.2.1.toNat (by omega)
 have g2 := hkv.2 t.2.2.2.toNat (by omega)
 exact ⟨g1.1, g2.1, fun h7 => ⟨g1.2 (h4 h7).1, g2.2 (h4 h7).2⟩⟩
theorem KV.next {ks vs st : List Int} {t : Tm} {vars : Int} (hkv : KV ks vs) (hst : Bds st) (hv : vars = st.length) (h : kd t ks vars ≠ 0) : KV (ks ++ [kd t ks vars]) (vs ++ [ev1 st t vs]) := by
 have hk := kd_low h
 have hlen := hkv.1
 refine ⟨by simp [hkv.1], fun j hj => ?_⟩
 simp only [List.length_append, List.length_cons, List.length_nil, Nat.zero_add] at hj
 rw [getD_snoc, getD_snoc, hkv.1]
 by_cases h1 : j < vs.length
 ·rw [if_pos h1, if_pos h1]; exact hkv.2 j h1
 ·have h2 : j = vs.length := by omega
  rw [if_neg h1, if_neg h1, if_pos h2, if_pos h2, hk]
  rcases kd_ne h with ⟨e, h3⟩ | ⟨e, h3, h4⟩ | h3
  ·unfold ev1; rw [if_pos e]; exact ⟨h3, by intro h; rw [if_neg (by omega)] at h; omega⟩
  ·unfold ev1; rw [if_neg (by omega), if_pos e]; exact ⟨hst _ (by omega), by intro h; rw [if_neg (by omega)] at h; omega⟩
  ·obtain ⟨a1, a2, a3⟩ := hkv.args (st := st) h3
   unfold ev1; rw [if_neg (by omega), if_neg (by omega)]
   exact ⟨doM_bd a1 a2 a3, fun h5 => doM_bit (by split at h5 <;> omega) a3⟩
theorem evs_len {st : List Int} : ∀ {l : List Tm} {vs : List Int}, (evs st l vs).length = vs.length + l.length
 | [], vs => by simp [evs]
 | t :: l, vs => by simp only [evs, evs_len, List.length_append, List.length_cons, List.length_nil]; omega
theorem KV.nil : KV [] [] := ⟨rfl, fun j hj => absurd hj (Nat.not_lt_zero _)⟩
theorem kf_some {l : List Tm} {vars : Int} (h : kf l vars ≠ 0) : ∃ o, kds vars l [] = some o ∧ (1 ≤ l.length ∧ l.length ≤ 40) ∧ kf l vars = o.getD (l.length - 1) 0 := by
 unfold kf kdsOf at h ⊢
 split at h
 ·rename_i h1
  rw [if_pos h1]
  cases ho : kds vars l [] with
  | none => rw [ho] at h; exact absurd rfl h
  | some o =>
   refine ⟨o, rfl, h1.2, ?_⟩
   have := kds_len ho
   simp only [List.length_nil, Nat.zero_add] at this
   rw [Option.getD_some, List.getLastD_eq_getLast?, List.getLast?_eq_getElem?, this]
   rfl
 ·exact absurd rfl h
theorem C_spec_l1Values (l : List Tm) (st : List Int) (vars : Int) (h : kf l vars ≠ 0) (hst : Bds st) (hv : vars = st.length) (Q : List AV → Prop) : mc.C f_spec_l1Values [⟨L T4, l⟩, ⟨L I, st⟩] Q = Q [⟨L I, evs st l []⟩] := by
 obtain ⟨o, h1, h2, h3⟩ := kf_some h
 refine Mc.Ends.c (mc.ends F_spec_l1Values ?_)
 simp (contextual := true) (maxSteps := 1000000) (disch := omega) only [↓Sd, ↓So, ↓Sk, ↓den, ↓denA, Sa, Sb, Sc, Se, O1.d, O2.d, O3.d, cmI, arI, envOf, putN, ↓reduceIte, Nat.reduceLT, Nat.reduceSub, Nat.reduceAdd, Int.reduceAdd, Int.reduceEq, Int.reduceLT, Int.reduceLE, arr_pos, arr_neg, tr_spec_l1Values]
 refine mc.lp_for (List Int) (fun i vs => [⟨L T4, l⟩, ⟨L I, st⟩, ⟨I, (i : Int)⟩, ⟨L I, vs⟩]) (fun i vs => vs.length = i ∧ evs st (l.drop i) vs = evs st l [] ∧ ∃ ks, KV ks vs ∧ kds vars (l.drop i) ks = some o) l.length 0 [] _ rfl (Nat.zero_le _) ⟨rfl, rfl, [], KV.nil, h1⟩ ?_ ?_
 ·rintro i vs hi ⟨hl, hs, ks, hkv, hk⟩
  rw [drop_cons (d := (0, 0, 0, 0)) hi] at hs hk
  simp only [evs, kds] at hs hk
  split at hk
  ·cases hk
  rename_i h0
  have hn := hkv.next hst hv h0
  have ha := kd_ne h0
  have hkl := hkv.1
  obtain ⟨t, ht⟩ : ∃ t, l.getD i (0, 0, 0, 0) = t := ⟨_, rfl⟩
  rw [ht] at hs hk h0 hn ha
  have hvs : (vs.length : Int) ≤ 40 := by omega
  simp (contextual := true) (maxSteps := 1000000) (disch := omega) only [↓Sd, ↓So, ↓Sk, ↓den, ↓denA, Sa, Sb, Sc, Se, O1.d, O2.d, O3.d, cmI, arI, envOf, putN, ↓reduceIte, Nat.reduceLT, Nat.reduceSub, Nat.reduceAdd, Int.reduceAdd, Int.reduceEq, Int.reduceLT, Int.reduceLE, arr_pos, arr_neg, ]
  refine mc.wp_join (fun us => us = [⟨L T4, l⟩, ⟨L I, st⟩, ⟨I, (i : Int)⟩, ⟨L I, vs ++ [ev1 st t vs]⟩]) ?_ ?_
  ·rcases ha with ⟨e, h3⟩ | ⟨e, h3, h4⟩ | h3
   ·simp (contextual := true) (maxSteps := 1000000) (disch := omega) only [↓Sd, ↓So, ↓Sk, ↓den, ↓denA, Sa, Sb, Sc, Se, O1.d, O2.d, O3.d, cmI, arI, envOf, putN, ↓reduceIte, Nat.reduceLT, Nat.reduceSub, Nat.reduceAdd, Int.reduceAdd, Int.reduceEq, Int.reduceLT, Int.reduceLE, arr_pos, arr_neg, ht, e, ev1]
   ·have e' : ¬ t.1 = 0 := by omega
    simp (contextual := true) (maxSteps := 1000000) (disch := omega) only [↓Sd, ↓So, ↓Sk, ↓den, ↓denA, Sa, Sb, Sc, Se, O1.d, O2.d, O3.d, cmI, arI, envOf, putN, ↓reduceIte, Nat.reduceLT, Nat.reduceSub, Nat.reduceAdd, Int.reduceAdd, Int.reduceEq, Int.reduceLT, Int.reduceLE, arr_pos, arr_neg, ht, e, ev1]
   ·obtain ⟨a1, a2, a3⟩ := hkv.args (st := st) h3
    have e1 : ¬ t.1 = 0 := by omega
    have e2 : ¬ t.1 = 1 := by omega
    simp (contextual := true) (maxSteps := 1000000) (disch := omega) only [↓Sd, ↓So, ↓Sk, ↓den, ↓denA, Sa, Sb, Sc, Se, O1.d, O2.d, O3.d, cmI, arI, envOf, putN, ↓reduceIte, Nat.reduceLT, Nat.reduceSub, Nat.reduceAdd, Int.reduceAdd, Int.reduceEq, Int.reduceLT, Int.reduceLE, arr_pos, arr_neg, ht, e1, e2, ev1, C_spec_l1Do _ _ _ a1 a2]
  ·rintro _ rfl
   simp (contextual := true) (maxSteps := 1000000) (disch := omega) only [↓Sd, ↓So, ↓Sk, ↓den, ↓denA, Sa, Sb, Sc, Se, O1.d, O2.d, O3.d, cmI, arI, envOf, putN, ↓reduceIte, Nat.reduceLT, Nat.reduceSub, Nat.reduceAdd, Int.reduceAdd, Int.reduceEq, Int.reduceLT, Int.reduceLE, arr_pos, arr_neg, ]
   exact ⟨by simp [hl], hs, _, hn, hk⟩
 ·rintro vs ⟨hl, hs, -⟩
  simp (contextual := true) (maxSteps := 1000000) (disch := omega) only [↓Sd, ↓So, ↓Sk, ↓den, ↓denA, Sa, Sb, Sc, Se, O1.d, O2.d, O3.d, cmI, arI, envOf, putN, ↓reduceIte, Nat.reduceLT, Nat.reduceSub, Nat.reduceAdd, Int.reduceAdd, Int.reduceEq, Int.reduceLT, Int.reduceLE, arr_pos, arr_neg, ]
  rw [List.drop_length] at hs
  exact hs
theorem C_spec_l2Last (l : List Tm) (st : List Int) (vars : Int) (h : kf l vars ≠ 0) (hst : Bds st) (hv : vars = st.length) (Q : List AV → Prop) : mc.C f_spec_l2Last [⟨L T4, l⟩, ⟨L I, st⟩] Q = Q [⟨I, evl l st⟩] := by
 obtain ⟨o, h1, h2, h3⟩ := kf_some h
 have hlen : (evs st l []).length = l.length := by rw [evs_len]; simp
 refine Mc.Ends.c (mc.ends F_spec_l2Last ?_)
 simp (contextual := true) (maxSteps := 1000000) (disch := omega) only [↓Sd, ↓So, ↓Sk, ↓den, ↓denA, Sa, Sb, Sc, Se, O1.d, O2.d, O3.d, cmI, arI, envOf, putN, ↓reduceIte, Nat.reduceLT, Nat.reduceSub, Nat.reduceAdd, Int.reduceAdd, Int.reduceEq, Int.reduceLT, Int.reduceLE, arr_pos, arr_neg, tr_spec_l2Last, C_spec_l1Values l st vars h hst hv]
 rfl
theorem getD_pad {l : List Int} {k j : Nat} : (l ++ List.replicate k 0).getD j 0 = l.getD j 0 := by
 simp only [List.getD_eq_getElem?_getD, List.getElem?_append]
 by_cases h1 : j < l.length
 ·simp [h1]
 ·simp only [h1, if_false]
  rw [List.getElem?_eq_none (by omega : l.length ≤ j), List.getElem?_replicate]
  split <;> rfl
theorem set_pad {α : Type} {l : List α} {k : Nat} {x z : α} : (l ++ List.replicate (k + 1) z).set l.length x = (l ++ [x]) ++ List.replicate k z := by
 rw [List.set_append_right _ _ (Nat.le_refl _), Nat.sub_self, List.replicate_succ, List.set_cons_zero, List.append_assoc]; rfl
theorem sub_split {n i : Nat} (h : i < n) : n - i = (n - (i + 1)) + 1 := by omega
theorem C_impl_eval (l : List Tm) (st : List Int) (vars : Int) (h : kf l vars ≠ 0) (hst : Bds st) (hv : vars = st.length) (Q : List AV → Prop) : mc.C f_impl_eval [⟨L T4, l⟩, ⟨L I, st⟩] Q = Q [⟨I, evl l st⟩] := by
 obtain ⟨o, h1, h2, h3⟩ := kf_some h
 refine Mc.Ends.c (mc.ends F_impl_eval ?_)
 simp (contextual := true) (maxSteps := 1000000) (disch := omega) only [↓Sd, ↓So, ↓Sk, ↓den, ↓denA, Sa, Sb, Sc, Se, O1.d, O2.d, O3.d, cmI, arI, envOf, putN, ↓reduceIte, Nat.reduceLT, Nat.reduceSub, Nat.reduceAdd, Int.reduceAdd, Int.reduceEq, Int.reduceLT, Int.reduceLE, arr_pos, arr_neg, tr_impl_eval]
 refine mc.lp_for (List Int) (fun i vs => [⟨L I, st⟩, ⟨L T4, l⟩, ⟨I, (l.length : Int)⟩, ⟨I, (i : Int)⟩, ⟨L I, vs ++ List.replicate (l.length - i) 0⟩]) (fun i vs => vs.length = i ∧ evs st (l.drop i) vs = evs st l [] ∧ ∃ ks, KV ks vs ∧ kds vars (l.drop i) ks = some o) l.length 0 [] _ rfl (Nat.zero_le _) ⟨rfl, rfl, [], KV.nil, h1⟩ ?_ ?_
 ·rintro i vs hi ⟨hl, hs, ks, hkv, hk⟩
  rw [drop_cons (d := (0, 0, 0, 0)) hi] at hs hk
  simp only [evs, kds] at hs hk
  split at hk
  ·cases hk
  rename_i h0
  have hn := hkv.next hst hv h0
  have ha := kd_ne h0
  have hkl := hkv.1
  obtain ⟨t, ht⟩ : ∃ t, l.getD i (0, 0, 0, 0) = t := ⟨_, rfl⟩
  rw [ht] at hs hk h0 hn ha
  have hvs : (vs.length : Int) ≤ 40 := by omega
  have hlen : (vs ++ List.replicate (l.length - i) (0 : Int)).length = l.length := by simp; omega
  have hset : ∀ x : Int, (vs ++ List.replicate (l.length - i) 0).set i x = (vs ++ [x]) ++ List.replicate (l.length - (i + 1)) 0 := by
   intro x; subst hl; rw [sub_split hi, set_pad]
  simp (contextual := true) (maxSteps := 1000000) (disch := omega) only [↓Sd, ↓So, ↓Sk, ↓den, ↓denA, Sa, Sb, Sc, Se, O1.d, O2.d, O3.d, cmI, arI, envOf, putN, ↓reduceIte, Nat.reduceLT, Nat.reduceSub, Nat.reduceAdd, Int.reduceAdd, Int.reduceEq, Int.reduceLT, Int.reduceLE, arr_pos, arr_neg, ]
  refine mc.wp_join (fun us => us = [⟨L I, st⟩, ⟨L T4, l⟩, ⟨I, (l.length : Int)⟩, ⟨I, (i : Int)⟩, ⟨L I, (vs ++ [ev1 st t vs]) ++ List.replicate (l.length - (i + 1)) 0⟩]) ?_ ?_
  ·rcases ha with ⟨e, h3⟩ | ⟨e, h3, h4⟩ | h3
   ·simp (contextual := true) (maxSteps := 1000000) (disch := omega) only [↓Sd, ↓So, ↓Sk, ↓den, ↓denA, Sa, Sb, Sc, Se, O1.d, O2.d, O3.d, cmI, arI, envOf, putN, ↓reduceIte, Nat.reduceLT, Nat.reduceSub, Nat.reduceAdd, Int.reduceAdd, Int.reduceEq, Int.reduceLT, Int.reduceLE, arr_pos, arr_neg, ht, e, ev1, hlen, hset]
   ·have e' : ¬ t.1 = 0 := by omega
    simp (contextual := true) (maxSteps := 1000000) (disch := omega) only [↓Sd, ↓So, ↓Sk, ↓den, ↓denA, Sa, Sb, Sc, Se, O1.d, O2.d, O3.d, cmI, arI, envOf, putN, ↓reduceIte, Nat.reduceLT, Nat.reduceSub, Nat.reduceAdd, Int.reduceAdd, Int.reduceEq, Int.reduceLT, Int.reduceLE, arr_pos, arr_neg, ht, e, ev1, hlen, hset]
   ·obtain ⟨a1, a2, a3⟩ := hkv.args (st := st) h3
    have e1 : ¬ t.1 = 0 := by omega
    have e2 : ¬ t.1 = 1 := by omega
    simp (contextual := true) (maxSteps := 1000000) (disch := omega) only [↓Sd, ↓So, ↓Sk, ↓den, ↓denA, Sa, Sb, Sc, Se, O1.d, O2.d, O3.d, cmI, arI, envOf, putN, ↓reduceIte, Nat.reduceLT, Nat.reduceSub, Nat.reduceAdd, Int.reduceAdd, Int.reduceEq, Int.reduceLT, Int.reduceLE, arr_pos, arr_neg, ht, e1, e2, ev1, hlen, hset, getD_pad, C_impl_do _ _ _ a1 a2 h3.1 fun h => a3 (by omega)]
  ·rintro _ rfl
   simp (contextual := true) (maxSteps := 1000000) (disch := omega) only [↓Sd, ↓So, ↓Sk, ↓den, ↓denA, Sa, Sb, Sc, Se, O1.d, O2.d, O3.d, cmI, arI, envOf, putN, ↓reduceIte, Nat.reduceLT, Nat.reduceSub, Nat.reduceAdd, Int.reduceAdd, Int.reduceEq, Int.reduceLT, Int.reduceLE, arr_pos, arr_neg, ]
   exact ⟨_, rfl, by simp [hl], hs, _, hn, hk⟩
 ·rintro vs ⟨hl, hs, -⟩
  rw [List.drop_length] at hs
  simp only [evs] at hs
  subst hs
  rw [Nat.sub_self, List.replicate_zero, List.append_nil]
  simp (contextual := true) (maxSteps := 1000000) (disch := omega) only [↓Sd, ↓So, ↓Sk, ↓den, ↓denA, Sa, Sb, Sc, Se, O1.d, O2.d, O3.d, cmI, arI, envOf, putN, ↓reduceIte, Nat.reduceLT, Nat.reduceSub, Nat.reduceAdd, Int.reduceAdd, Int.reduceEq, Int.reduceLT, Int.reduceLE, arr_pos, arr_neg, ]
  rw [hl]; rfl
def inR (vs : List Vr) (st : List Int) : Prop := st.length = vs.length ∧ ∀ i, i < vs.length → (vs.getD i (0, 0, 0)).1 ≤ st.getD i 0 ∧ st.getD i 0 ≤ (vs.getD i (0, 0, 0)).2.1
instance (vs : List Vr) (st : List Int) : Decidable (inR vs st) := by unfold inR; infer_instance
theorem inR.bds {vs : List Vr} {st : List Int} (h : inR vs st) (hv : ∀ v ∈ vs, vOk v) : Bds st := by
 intro j hj
 have h1 := h.2 j (by rw [← h.1]; exact hj)
 have h2 := hv _ (getD_mem (d := (0, 0, 0)) (by rw [← h.1]; exact hj))
 unfold vOk at h2
 unfold Bd4
 omega
theorem C_spec_l2In (s : Sy) (st : List Int) (h5 : s.1.length ≤ 5) (hl : st.length ≤ 1048576) (Q : List AV → Prop) : mc.C f_spec_l2In [⟨L V3, s.1⟩, ⟨L TR, s.2⟩, ⟨L I, st⟩] Q = Q [⟨B, decide (inR s.1 st)⟩] := by
 refine Mc.Ends.c (mc.ends F_spec_l2In ?_)
 generalize hK : decide (inR s.1 st) = K
 simp (contextual := true) (maxSteps := 1000000) (disch := omega) only [↓Sd, ↓So, ↓Sk, ↓den, ↓denA, Sa, Sb, Sc, Se, O1.d, O2.d, O3.d, cmI, arI, envOf, putN, ↓reduceIte, Nat.reduceLT, Nat.reduceSub, Nat.reduceAdd, Int.reduceAdd, Int.reduceEq, Int.reduceLT, Int.reduceLE, arr_pos, arr_neg, tr_spec_l2In]
 refine ⟨fun g => ?_, fun g1 => ?_⟩
 ·rw [← hK, decide_eq_false]; exact fun h => g (by rw [h.1])
 refine lp_all (fun i => [⟨L I, st⟩, ⟨I, (i : Int)⟩, ⟨L V3, s.1⟩, ⟨L TR, s.2⟩]) (fun i => (s.1.getD i (0, 0, 0)).1 ≤ st.getD i 0 ∧ st.getD i 0 ≤ (s.1.getD i (0, 0, 0)).2.1) s.1.length _ rfl ?_ ?_
 ·intro i hi
  have hno : ¬ ((s.1.getD i (0, 0, 0)).1 ≤ st.getD i 0 ∧ st.getD i 0 ≤ (s.1.getD i (0, 0, 0)).2.1) → false = K := fun h => by rw [← hK, decide_eq_false]; exact fun h1 => h (h1.2 i hi)
  simp (contextual := true) (maxSteps := 1000000) (disch := omega) only [↓Sd, ↓So, ↓Sk, ↓den, ↓denA, Sa, Sb, Sc, Se, O1.d, O2.d, O3.d, cmI, arI, envOf, putN, ↓reduceIte, Nat.reduceLT, Nat.reduceSub, Nat.reduceAdd, Int.reduceAdd, Int.reduceEq, Int.reduceLT, Int.reduceLE, arr_pos, arr_neg, C_spec_l1In]
  exact hno
 ·intro h
  simp (contextual := true) (maxSteps := 1000000) (disch := omega) only [↓Sd, ↓So, ↓Sk, ↓den, ↓denA, Sa, Sb, Sc, Se, O1.d, O2.d, O3.d, cmI, arI, envOf, putN, ↓reduceIte, Nat.reduceLT, Nat.reduceSub, Nat.reduceAdd, Int.reduceAdd, Int.reduceEq, Int.reduceLT, Int.reduceLE, arr_pos, arr_neg, ]
  rw [← hK, decide_eq_true]; exact ⟨by omega, h⟩
theorem C_impl_inRange (s : Sy) (st : List Int) (h5 : s.1.length ≤ 5) (hl : st.length ≤ 1048576) (Q : List AV → Prop) : mc.C f_impl_inRange [⟨L V3, s.1⟩, ⟨L TR, s.2⟩, ⟨L I, st⟩] Q = Q [⟨B, decide (inR s.1 st)⟩] := by
 refine Mc.Ends.c (mc.ends F_impl_inRange ?_)
 generalize hK : decide (inR s.1 st) = K
 simp (contextual := true) (maxSteps := 1000000) (disch := omega) only [↓Sd, ↓So, ↓Sk, ↓den, ↓denA, Sa, Sb, Sc, Se, O1.d, O2.d, O3.d, cmI, arI, envOf, putN, ↓reduceIte, Nat.reduceLT, Nat.reduceSub, Nat.reduceAdd, Int.reduceAdd, Int.reduceEq, Int.reduceLT, Int.reduceLE, arr_pos, arr_neg, tr_impl_inRange]
 refine ⟨fun g => ?_, fun g1 => ?_⟩
 ·rw [← hK, decide_eq_false]; exact fun h => g (by rw [h.1])
 refine lp_all (fun i => [⟨L I, st⟩, ⟨L V3, s.1⟩, ⟨I, (s.1.length : Int)⟩, ⟨I, (i : Int)⟩]) (fun i => (s.1.getD i (0, 0, 0)).1 ≤ st.getD i 0 ∧ st.getD i 0 ≤ (s.1.getD i (0, 0, 0)).2.1) s.1.length _ rfl ?_ ?_
 ·intro i hi
  have hno : ¬ ((s.1.getD i (0, 0, 0)).1 ≤ st.getD i 0 ∧ st.getD i 0 ≤ (s.1.getD i (0, 0, 0)).2.1) → false = K := fun h => by rw [← hK, decide_eq_false]; exact fun h1 => h (h1.2 i hi)
  simp (contextual := true) (maxSteps := 1000000) (disch := omega) only [↓Sd, ↓So, ↓Sk, ↓den, ↓denA, Sa, Sb, Sc, Se, O1.d, O2.d, O3.d, cmI, arI, envOf, putN, ↓reduceIte, Nat.reduceLT, Nat.reduceSub, Nat.reduceAdd, Int.reduceAdd, Int.reduceEq, Int.reduceLT, Int.reduceLE, arr_pos, arr_neg, C_impl_in]
  exact hno
 ·intro h
  simp (contextual := true) (maxSteps := 1000000) (disch := omega) only [↓Sd, ↓So, ↓Sk, ↓den, ↓denA, Sa, Sb, Sc, Se, O1.d, O2.d, O3.d, cmI, arI, envOf, putN, ↓reduceIte, Nat.reduceLT, Nat.reduceSub, Nat.reduceAdd, Int.reduceAdd, Int.reduceEq, Int.reduceLT, Int.reduceLE, arr_pos, arr_neg, ]
  rw [← hK, decide_eq_true]; exact ⟨by omega, h⟩
theorem overL_rep {α : Type} {l : List α} {z : α} : overL (List.replicate l.length z) l = l := by
 unfold overL
 simp
theorem C_impl_clone_int (l : List Int) (hl : l.length ≤ 1048576) (Q : List AV → Prop) : mc.C f_impl_clone_int [⟨L I, l⟩] Q = Q [⟨L I, l⟩] := by
 refine Mc.Ends.c (mc.ends F_impl_clone_int ?_)
 simp (contextual := true) (maxSteps := 1000000) (disch := omega) only [↓Sd, ↓So, ↓Sk, ↓den, ↓denA, Sa, Sb, Sc, Se, O1.d, O2.d, O3.d, cmI, arI, envOf, putN, ↓reduceIte, Nat.reduceLT, Nat.reduceSub, Nat.reduceAdd, Int.reduceAdd, Int.reduceEq, Int.reduceLT, Int.reduceLE, arr_pos, arr_neg, tr_impl_clone_int, overL_rep]
 intro h
 exact (List.eq_nil_of_length_eq_zero (by omega)).symm
def upR (r : Ru) (st : List Int) (n : Nat) : List Int := (List.range n).foldl (fun o i => o.set (r.2.1.getD i 0).toNat (evl (r.2.2.getD i []) st)) st
def useM (vs : List Vr) (r : Ru) (st : List Int) : List Int := if evl r.1 st = 0 then [] else if inR vs (upR r st r.2.1.length) then upR r st r.2.1.length else []
theorem upR_next {r : Ru} {st : List Int} {n : Nat} : upR r st (n + 1) = (upR r st n).set (r.2.1.getD n 0).toNat (evl (r.2.2.getD n []) st) := by
 unfold upR; rw [List.range_succ, List.foldl_append]; rfl
theorem upR_len {r : Ru} {st : List Int} : ∀ {n : Nat}, (upR r st n).length = st.length
 | 0 => rfl
 | n + 1 => by rw [upR_next, List.length_set, upR_len]
theorem take_next {α : Type} {l : List α} {i : Nat} {d : α} (h : i < l.length) : l.take i ++ [l.getD i d] = l.take (i + 1) := by
 rw [getD_lt h, List.take_append_getElem h]
theorem C_spec_l2Use (s : Sy) (st : List Int) (k : Nat) (h : valid s) (hst : inR s.1 st) (hk : k < s.2.length) (Q : List AV → Prop) : mc.C f_spec_l2Use [⟨L V3, s.1⟩, ⟨L TR, s.2⟩, ⟨L I, st⟩, ⟨I, (k : Int)⟩] Q = Q [⟨L I, useM s.1 (s.2.getD k ([], [], [])) st⟩] := by
 obtain ⟨⟨g0, g1⟩, g2, g3, g4, g5⟩ := h
 have hb := hst.bds g3
 have hl := hst.1
 have hr := g4 _ (getD_mem (d := ([], [], [])) hk)
 refine Mc.Ends.c (mc.ends F_spec_l2Use ?_)
 generalize hK : useM s.1 (s.2.getD k ([], [], [])) st = K
 generalize ht : s.2.getD k ([], [], []) = r at hK hr
 obtain ⟨e1, e2, e3⟩ := hr
 have hf := rOk_few e3
 simp (contextual := true) (maxSteps := 1000000) (disch := omega) only [↓Sd, ↓So, ↓Sk, ↓den, ↓denA, Sa, Sb, Sc, Se, O1.d, O2.d, O3.d, cmI, arI, envOf, putN, ↓reduceIte, Nat.reduceLT, Nat.reduceSub, Nat.reduceAdd, Int.reduceAdd, Int.reduceEq, Int.reduceLT, Int.reduceLE, arr_pos, arr_neg, tr_spec_l2Use, ht, C_spec_l2Last r.1 st s.1.length (by omega) hb (by omega)]
 refine ⟨fun g => by rw [← hK, useM, if_pos g], fun g => ?_⟩
 refine mc.lp_for (List Int) (fun i o => [⟨L I, st⟩, ⟨I, (i : Int)⟩, ⟨L V3, s.1⟩, ⟨L TR, s.2⟩, ⟨L T4, r.1⟩, ⟨L I, r.2.1⟩, ⟨L (L T4), r.2.2⟩, ⟨L I, o⟩]) (fun i o => o = st.take i) st.length 0 [] _ rfl (Nat.zero_le _) rfl ?_ ?_
 ·rintro i o hi rfl
  have h1 : ((st.take i).length : Int) ≤ 5 := by rw [List.length_take]; omega
  simp (contextual := true) (maxSteps := 1000000) (disch := omega) only [↓Sd, ↓So, ↓Sk, ↓den, ↓denA, Sa, Sb, Sc, Se, O1.d, O2.d, O3.d, cmI, arI, envOf, putN, ↓reduceIte, Nat.reduceLT, Nat.reduceSub, Nat.reduceAdd, Int.reduceAdd, Int.reduceEq, Int.reduceLT, Int.reduceLE, arr_pos, arr_neg, ]
  exact take_next hi
 rintro o rfl
 rw [List.take_length]
 simp (contextual := true) (maxSteps := 1000000) (disch := omega) only [↓Sd, ↓So, ↓Sk, ↓den, ↓denA, Sa, Sb, Sc, Se, O1.d, O2.d, O3.d, cmI, arI, envOf, putN, ↓reduceIte, Nat.reduceLT, Nat.reduceSub, Nat.reduceAdd, Int.reduceAdd, Int.reduceEq, Int.reduceLT, Int.reduceLE, arr_pos, arr_neg, ]
 refine mc.lp_for (List Int) (fun i o => [⟨L I, st⟩, ⟨I, (i : Int)⟩, ⟨L V3, s.1⟩, ⟨L TR, s.2⟩, ⟨L T4, r.1⟩, ⟨L I, r.2.1⟩, ⟨L (L T4), r.2.2⟩, ⟨L I, o⟩]) (fun i o => o = upR r st i) r.2.1.length 0 st _ rfl (Nat.zero_le _) rfl ?_ ?_
 ·rintro i o hi rfl
  obtain ⟨e4, e5, e6⟩ := e3 i hi
  have h1 : ((upR r st i).length : Int) = s.1.length := by rw [upR_len]; omega
  simp (contextual := true) (maxSteps := 1000000) (disch := omega) only [↓Sd, ↓So, ↓Sk, ↓den, ↓denA, Sa, Sb, Sc, Se, O1.d, O2.d, O3.d, cmI, arI, envOf, putN, ↓reduceIte, Nat.reduceLT, Nat.reduceSub, Nat.reduceAdd, Int.reduceAdd, Int.reduceEq, Int.reduceLT, Int.reduceLE, arr_pos, arr_neg, C_spec_l2Last (r.2.2.getD i []) st s.1.length (by omega) hb (by omega)]
  exact upR_next.symm
 rintro o rfl
 simp (contextual := true) (maxSteps := 1000000) (disch := omega) only [↓Sd, ↓So, ↓Sk, ↓den, ↓denA, Sa, Sb, Sc, Se, O1.d, O2.d, O3.d, cmI, arI, envOf, putN, ↓reduceIte, Nat.reduceLT, Nat.reduceSub, Nat.reduceAdd, Int.reduceAdd, Int.reduceEq, Int.reduceLT, Int.reduceLE, arr_pos, arr_neg, C_spec_l2In s (upR r st r.2.1.length) g1 (by rw [upR_len]; omega)]
 rw [← hK, useM, if_neg g]
 exact ⟨fun h => by rw [if_neg h], fun h => by rw [if_pos h]⟩
theorem C_impl_use (s : Sy) (st : List Int) (k : Nat) (h : valid s) (hst : inR s.1 st) (hk : k < s.2.length) (Q : List AV → Prop) : mc.C f_impl_use [⟨L V3, s.1⟩, ⟨L TR, s.2⟩, ⟨L I, st⟩, ⟨I, (k : Int)⟩] Q = Q [⟨L I, useM s.1 (s.2.getD k ([], [], [])) st⟩, ⟨B, decide (useM s.1 (s.2.getD k ([], [], [])) st ≠ [])⟩] := by
 obtain ⟨⟨g0, g1⟩, g2, g3, g4, g5⟩ := h
 have hb := hst.bds g3
 have hl := hst.1
 have hr := g4 _ (getD_mem (d := ([], [], [])) hk)
 refine Mc.Ends.c (mc.ends F_impl_use ?_)
 generalize hK : useM s.1 (s.2.getD k ([], [], [])) st = K
 generalize ht : s.2.getD k ([], [], []) = r at hK hr
 obtain ⟨e1, e2, e3⟩ := hr
 have hf := rOk_few e3
 simp (contextual := true) (maxSteps := 1000000) (disch := omega) only [↓Sd, ↓So, ↓Sk, ↓den, ↓denA, Sa, Sb, Sc, Se, O1.d, O2.d, O3.d, cmI, arI, envOf, putN, ↓reduceIte, Nat.reduceLT, Nat.reduceSub, Nat.reduceAdd, Int.reduceAdd, Int.reduceEq, Int.reduceLT, Int.reduceLE, arr_pos, arr_neg, tr_impl_use, ht, C_impl_eval r.1 st s.1.length (by omega) hb (by omega), C_impl_clone_int st (by omega)]
 refine ⟨fun g => by rw [← hK, useM, if_pos g]; simp, fun g => ?_⟩
 refine mc.lp_for (List Int) (fun i o => [⟨L I, st⟩, ⟨L I, r.2.1⟩, ⟨I, (r.2.1.length : Int)⟩, ⟨I, (i : Int)⟩, ⟨L V3, s.1⟩, ⟨L TR, s.2⟩, ⟨L T4, r.1⟩, ⟨L I, r.2.1⟩, ⟨L (L T4), r.2.2⟩, ⟨L I, o⟩]) (fun i o => o = upR r st i) r.2.1.length 0 st _ rfl (Nat.zero_le _) rfl ?_ ?_
 ·rintro i o hi rfl
  obtain ⟨e4, e5, e6⟩ := e3 i hi
  have h1 : ((upR r st i).length : Int) = s.1.length := by rw [upR_len]; omega
  simp (contextual := true) (maxSteps := 1000000) (disch := omega) only [↓Sd, ↓So, ↓Sk, ↓den, ↓denA, Sa, Sb, Sc, Se, O1.d, O2.d, O3.d, cmI, arI, envOf, putN, ↓reduceIte, Nat.reduceLT, Nat.reduceSub, Nat.reduceAdd, Int.reduceAdd, Int.reduceEq, Int.reduceLT, Int.reduceLE, arr_pos, arr_neg, C_impl_eval (r.2.2.getD i []) st s.1.length (by omega) hb (by omega)]
  exact upR_next.symm
 rintro o rfl
 simp (contextual := true) (maxSteps := 1000000) (disch := omega) only [↓Sd, ↓So, ↓Sk, ↓den, ↓denA, Sa, Sb, Sc, Se, O1.d, O2.d, O3.d, cmI, arI, envOf, putN, ↓reduceIte, Nat.reduceLT, Nat.reduceSub, Nat.reduceAdd, Int.reduceAdd, Int.reduceEq, Int.reduceLT, Int.reduceLE, arr_pos, arr_neg, C_impl_inRange s (upR r st r.2.1.length) g1 (by rw [upR_len]; omega)]
 rw [← hK, useM, if_neg g]
 refine ⟨fun h => by rw [if_neg h]; simp, fun h => ?_⟩
 rw [if_pos h]
 have h1 : (upR r st r.2.1.length).length = st.length := upR_len
 refine ⟨rfl, ?_⟩
 rw [eq_comm, decide_eq_true]
 intro h2
 rw [h2] at h1
 simp at h1
 omega
def cmpL : List Int → List Int → Int
 | [], [] => 0
 | [], _ :: _ => -1
 | _ :: _, [] => 1
 | a :: l, b :: m => if a < b then -1 else if a > b then 1 else cmpL l m
def putM (x : List Int) : List (List Int) → List (List Int)
 | [] => [x]
 | y :: l => if y = x then y :: l else if cmpL x y < 0 then x :: y :: l else y :: putM x l
def Asc (l : List (List Int)) : Prop := l.Pairwise fun a b => cmpL a b < 0
def nxtN (s : Sy) (st : List Int) : Nat → List (List Int)
 | 0 => []
 | k + 1 => if useM s.1 (s.2.getD k ([], [], [])) st = [] then nxtN s st k else putM (useM s.1 (s.2.getD k ([], [], [])) st) (nxtN s st k)
def nxt (s : Sy) (st : List Int) : List (List Int) := nxtN s st s.2.length
theorem Asc.lt {l : List (List Int)} (h : Asc l) {i j : Nat} (hij : i < j) (hj : j < l.length) : cmpL (l.getD i []) (l.getD j []) < 0 := by
 rw [getD_lt (by omega), getD_lt hj]
 exact List.pairwise_iff_getElem.1 h i j (by omega) hj hij
def fst0 (l : List Vr) : List Int := l.map (·.2.2)
def numN (l : List Vr) (st : List Int) : Nat → Int
 | 0 => 0
 | i + 1 => numN l st i * wd (l.getD i (0, 0, 0)) + st.getD i 0 - (l.getD i (0, 0, 0)).1
def num (l : List Vr) (st : List Int) : Int := numN l st l.length
def dg : List Vr → Int → Int × List Int
 | [], n => (n, [])
 | v :: l, n => ((dg l n).1 / wd v, (v.1 + (dg l n).1 % wd v) :: (dg l n).2)
def stAt (l : List Vr) (n : Int) : List Int := (dg l n).2
def tab {α : Type} (f : Nat → α) (n : Nat) : List α := (List.range n).map f
theorem tab_len {α : Type} {f : Nat → α} {n : Nat} : (tab f n).length = n := by simp [tab]
theorem tab_next {α : Type} {f : Nat → α} {n : Nat} : tab f n ++ [f n] = tab f (n + 1) := by simp [tab, List.range_succ]
theorem tab_get {α : Type} {f : Nat → α} {n i : Nat} {d : α} (h : i < n) : (tab f n).getD i d = f i := by simp [tab, h]
def szn (l : List Vr) : Nat := (sz l).toNat
theorem szn_eq {s : Sy} (h : valid s) : ((szn s.1 : Nat) : Int) = sz s.1 ∧ 1 ≤ szn s.1 ∧ szn s.1 ≤ 400 := by
 have h1 := sz_pos s.1 h.2.2.1 s.1.length (Nat.le_refl _)
 rw [List.take_length] at h1
 have h2 := h.2.2.2.2
 unfold szn
 omega
def stN (s : Sy) (n : Nat) : List Int := stAt s.1 n
def stepR (s : Sy) (n : Nat) : List Int := (nxt s (stN s n)).map (num s.1)
def steps (s : Sy) : List (List Int) := tab (stepR s) (szn s.1)
def upTo (p : Nat → Bool) : Nat → List Int
 | 0 => []
 | n + 1 => if p n = true then upTo p n ++ [(n : Int)] else upTo p n
theorem upTo_s {p : Nat → Bool} {n : Nat} (h : p n = true) : upTo p (n + 1) = upTo p n ++ [(n : Int)] := by rw [upTo, if_pos h]
end Go.Proofs.YthapopegchnhlaaGreat
namespace Go.Proofs.YthapopegchnhlaaGreat
open Go Go.Sm Go.Sm.Q
set_option linter.unusedSimpArgs false
set_option linter.unusedVariables false
theorem upTo_n {p : Nat → Bool} {n : Nat} (h : ¬ p n = true) : upTo p (n + 1) = upTo p n := by rw [upTo, if_neg h]
theorem upTo_len {p : Nat → Bool} : ∀ {n : Nat}, (upTo p n).length ≤ n
 | 0 => Nat.le_refl _
 | n + 1 => by
  have := @upTo_len p n
  simp only [upTo]
  split
  ·simp; omega
  ·omega
theorem upTo_mem {p : Nat → Bool} {x : Int} : ∀ {n : Nat}, x ∈ upTo p n ↔ ∃ k, k < n ∧ x = (k : Int) ∧ p k = true
 | 0 => by simp [upTo]
 | n + 1 => by
  have ih := @upTo_mem p x n
  simp only [upTo]
  constructor
  ·intro h
   split at h
   ·rename_i hp
    rcases List.mem_append.1 h with h | h
    ·obtain ⟨k, h1, h2⟩ := ih.1 h; exact ⟨k, by omega, h2⟩
    ·exact ⟨n, by omega, by simpa using h, hp⟩
   ·obtain ⟨k, h1, h2⟩ := ih.1 h; exact ⟨k, by omega, h2⟩
  ·rintro ⟨k, h1, h2, h3⟩
   rcases Nat.lt_succ_iff_lt_or_eq.1 h1 with h4 | rfl
   ·have h5 := ih.2 ⟨k, h4, h2, h3⟩
    split
    ·exact List.mem_append_left _ h5
    ·exact h5
   ·rw [if_pos h3, h2]; simp
theorem upTo_congr {p q : Nat → Bool} : ∀ {n : Nat}, (∀ k, k < n → p k = q k) → upTo p n = upTo q n
 | 0, _ => rfl
 | n + 1, h => by simp only [upTo]; rw [h n (by omega), upTo_congr fun k hk => h k (by omega)]
noncomputable def dB (p : Prop) : Bool := @decide p (Classical.propDecidable p)
theorem dB_iff {p : Prop} : dB p = true ↔ p := @decide_eq_true_iff p (Classical.propDecidable p)
theorem dB_t {p : Prop} (h : p) : dB p = true := dB_iff.2 h
theorem dB_f {p : Prop} (h : ¬ p) : dB p = false := by cases h1 : dB p with | false => rfl | true => exact absurd (dB_iff.1 h1) h
theorem dB_congr {p q : Prop} (h : p ↔ q) : dB p = dB q := by rw [propext h]
theorem dB_eq {p : Prop} [Decidable p] : dB p = decide p := by by_cases h : p <;> simp [h, dB]
theorem tab_congr {α : Type} {f g : Nat → α} {n : Nat} (h : ∀ k, k < n → f k = g k) : tab f n = tab g n := by
 unfold tab
 exact List.map_congr_left fun k hk => h k (List.mem_range.1 hk)
theorem tab_set' {α : Type} {f : Nat → α} {n j : Nat} {x : α} : (tab f n).set j x = tab (fun k => if k = j then x else f k) n := by
 apply List.ext_getElem
 ·simp [tab]
 ·intro i h1 h2
  simp only [tab, List.length_set, List.length_map, List.length_range] at h1 h2
  rw [List.getElem_set]
  simp only [tab, List.getElem_map, List.getElem_range]
  by_cases h : j = i
  ·rw [if_pos h, if_pos h.symm]
  ·rw [if_neg h, if_neg (fun e => h e.symm)]
theorem rep_tab {α : Type} {z : α} {n : Nat} : List.replicate n z = tab (fun _ => z) n := by
 apply List.ext_getElem <;> simp [tab]
def lset (l : List Int) (n : Int) : Prop := ∀ i, i < l.length → (0 ≤ l.getD i 0 ∧ l.getD i 0 ≤ n - 1) ∧ (0 < i → l.getD (i - 1) 0 < l.getD i 0)
instance (l : List Int) (n : Int) : Decidable (lset l n) := by unfold lset; infer_instance
theorem lset_ge {l : List Int} {n : Int} (h : lset l n) : ∀ i, i < l.length → (i : Int) ≤ l.getD i 0 := by
 intro i
 induction i with
 | zero => intro hi; exact (h 0 hi).1.1
 | succ i ih =>
  intro hi
  have h1 := ih (by omega)
  have h2 := (h (i + 1) hi).2 (by omega)
  simp only [Nat.add_sub_cancel] at h2
  omega
theorem lset_len {l : List Int} {n : Int} (h : lset l n) (hn : 0 ≤ n) : (l.length : Int) ≤ n := by
 rcases Nat.eq_zero_or_pos l.length with h0 | h0
 ·omega
 ·have h1 := lset_ge h (l.length - 1) (by omega)
  have h2 := (h (l.length - 1) (by omega)).1.2
  omega
theorem mem_take_next {l : List Int} {i : Nat} {x : Int} (h : i < l.length) : x ∈ l.take (i + 1) ↔ x ∈ l.take i ∨ x = l.getD i 0 := by
 rw [← take_next (d := 0) h]; simp
theorem C_spec_l4List (l : List Bool) (hl : l.length ≤ 1048576) (Q : List AV → Prop) : mc.C f_spec_l4List [⟨L B, l⟩] Q = Q [⟨L I, upTo (fun k => l.getD k false) l.length⟩] := by
 refine Mc.Ends.c (mc.ends F_spec_l4List ?_)
 simp (contextual := true) (maxSteps := 1000000) (disch := omega) only [↓Sd, ↓So, ↓Sk, ↓den, ↓denA, Sa, Sb, Sc, Se, O1.d, O2.d, O3.d, cmI, arI, envOf, putN, ↓reduceIte, Nat.reduceLT, Nat.reduceSub, Nat.reduceAdd, Int.reduceAdd, Int.reduceEq, Int.reduceLT, Int.reduceLE, arr_pos, arr_neg, tr_spec_l4List]
 refine mc.lp_for (List Int) (fun i o => [⟨L B, l⟩, ⟨I, (i : Int)⟩, ⟨L I, o⟩]) (fun i o => o = upTo (fun k => l.getD k false) i) l.length 0 [] _ rfl (Nat.zero_le _) rfl ?_ ?_
 ·rintro i o hi rfl
  have h1 := @upTo_len (fun k => l.getD k false) i
  simp (contextual := true) (maxSteps := 1000000) (disch := omega) only [↓Sd, ↓So, ↓Sk, ↓den, ↓denA, Sa, Sb, Sc, Se, O1.d, O2.d, O3.d, cmI, arI, envOf, putN, ↓reduceIte, Nat.reduceLT, Nat.reduceSub, Nat.reduceAdd, Int.reduceAdd, Int.reduceEq, Int.reduceLT, Int.reduceLE, arr_pos, arr_neg, ↓wpJoin, ]
  exact ⟨fun g => (upTo_s g).symm, fun g => (upTo_n g).symm⟩
 ·rintro o rfl
  simp (contextual := true) (maxSteps := 1000000) (disch := omega) only [↓Sd, ↓So, ↓Sk, ↓den, ↓denA, Sa, Sb, Sc, Se, O1.d, O2.d, O3.d, cmI, arI, envOf, putN, ↓reduceIte, Nat.reduceLT, Nat.reduceSub, Nat.reduceAdd, Int.reduceAdd, Int.reduceEq, Int.reduceLT, Int.reduceLE, arr_pos, arr_neg, ]
theorem C_spec_l4List_tab (p : Nat → Bool) (n : Nat) (hn : n ≤ 1048576) (Q : List AV → Prop) : mc.C f_spec_l4List [⟨L B, tab p n⟩] Q = Q [⟨L I, upTo p n⟩] := by
 rw [C_spec_l4List _ (by rw [tab_len]; exact hn), tab_len, upTo_congr fun k hk => tab_get hk]
theorem dB_upTo {p : Nat → Bool} {n k : Nat} : dB ((k : Int) ∈ upTo p n) = (decide (k < n) && p k) := by
 by_cases h : k < n ∧ p k = true
 ·rw [dB_t (upTo_mem.2 ⟨k, h.1, rfl, h.2⟩)]; simp [h]
 ·rw [dB_f]
  ·by_cases h1 : k < n
   ·have : p k = false := by cases h2 : p k with | false => rfl | true => exact absurd ⟨h1, h2⟩ h
    simp [this]
   ·simp [h1]
  ·intro h1
   obtain ⟨j, h2, h3, h4⟩ := upTo_mem.1 h1
   have : k = j := by omega
   subst this
   exact h ⟨h2, h4⟩
inductive Rch (T : List (List Int)) (F : List Int) : Nat → Prop
 | base {k : Nat} : (k : Int) ∈ F → Rch T F k
 | step {a k : Nat} : Rch T F a → (k : Int) ∈ T.getD a [] → Rch T F k
def Tbl (T : List (List Int)) (n : Nat) : Prop := T.length = n ∧ ∀ r ∈ T, r.length ≤ 1048576 ∧ ∀ x ∈ r, 0 ≤ x ∧ x < n
theorem Tbl.row {T : List (List Int)} {n i : Nat} (h : Tbl T n) : ∀ x ∈ T.getD i [], 0 ≤ x ∧ x < n := by
 intro x hx
 by_cases hi : i < T.length
 ·exact (h.2 _ (getD_mem hi)).2 x hx
 ·rw [List.getD_eq_getElem?_getD, List.getElem?_eq_none (by omega)] at hx
  cases hx
theorem Rch.lt {T : List (List Int)} {F : List Int} {n k : Nat} (h : Tbl T n) (hF : ∀ x ∈ F, x < n) (hk : Rch T F k) : k < n := by
 induction hk with
 | base h1 => have := hF _ h1; omega
 | step _ h1 => have := h.row _ h1; omega
theorem mk_or {c : Prop} [Decidable c] {b : Bool} (h : b = true) : (if c then true else b) = true := by
 split
 ·rfl
 ·exact h
def cntF (p : Nat → Bool) (n : Nat) : Nat := (upTo (fun k => !p k) n).length
theorem cntF_le {p : Nat → Bool} {n : Nat} : cntF p n ≤ n := upTo_len
theorem cntF_set {p : Nat → Bool} {j : Nat} (hp : p j = false) : ∀ {n : Nat}, j < n → cntF (fun k => if k = j then true else p k) n + 1 = cntF p n
 | 0, h => absurd h (Nat.not_lt_zero _)
 | n + 1, h => by
  unfold cntF
  by_cases hj : n = j
  ·subst hj
   rw [upTo_n (by simp), upTo_s (by simp [hp]), upTo_congr (q := fun k => !p k) fun k hk => by
    have : ¬ k = n := by omega
    simp [this]]
   simp
  ·have ih : (upTo (fun k => !(if k = j then true else p k)) n).length + 1 = (upTo (fun k => !p k) n).length := cntF_set hp (by omega)
   by_cases hq : p n = true
   ·rw [upTo_n (by simp [hj, hq]), upTo_n (by simp [hq])]; exact ih
   ·rw [upTo_s (by simp [hj, hq]), upTo_s (by simp [hq])]
    simp only [List.length_append, List.length_cons, List.length_nil]
    omega
theorem getD_set_eq {α : Type} {l : List α} {i : Nat} {x d : α} (h : i < l.length) : (l.set i x).getD i d = x := by
 simp [List.getD_eq_getElem?_getD, h]
theorem C_impl_listOf (l : List Bool) (hl : l.length ≤ 1048576) (Q : List AV → Prop) : mc.C f_impl_listOf [⟨L B, l⟩] Q = Q [⟨L I, upTo (fun k => l.getD k false) l.length⟩] := by
 refine Mc.Ends.c (mc.ends F_impl_listOf ?_)
 simp (contextual := true) (maxSteps := 1000000) (disch := omega) only [↓Sd, ↓So, ↓Sk, ↓den, ↓denA, Sa, Sb, Sc, Se, O1.d, O2.d, O3.d, cmI, arI, envOf, putN, ↓reduceIte, Nat.reduceLT, Nat.reduceSub, Nat.reduceAdd, Int.reduceAdd, Int.reduceEq, Int.reduceLT, Int.reduceLE, arr_pos, arr_neg, tr_impl_listOf]
 refine mc.lp_for (List Int) (fun i o => [⟨L B, l⟩, ⟨I, (l.length : Int)⟩, ⟨I, (i : Int)⟩, ⟨L I, o⟩]) (fun i o => o = upTo (fun k => l.getD k false) i) l.length 0 [] _ rfl (Nat.zero_le _) rfl ?_ ?_
 ·rintro i o hi rfl
  have h1 := @upTo_len (fun k => l.getD k false) i
  simp (contextual := true) (maxSteps := 1000000) (disch := omega) only [↓Sd, ↓So, ↓Sk, ↓den, ↓denA, Sa, Sb, Sc, Se, O1.d, O2.d, O3.d, cmI, arI, envOf, putN, ↓reduceIte, Nat.reduceLT, Nat.reduceSub, Nat.reduceAdd, Int.reduceAdd, Int.reduceEq, Int.reduceLT, Int.reduceLE, arr_pos, arr_neg, ↓wpJoin, ]
  exact ⟨fun g => (upTo_s g).symm, fun g => (upTo_n g).symm⟩
 ·rintro o rfl
  have h1 := @upTo_len (fun k => l.getD k false) l.length
  simp (contextual := true) (maxSteps := 1000000) (disch := omega) only [↓Sd, ↓So, ↓Sk, ↓den, ↓denA, Sa, Sb, Sc, Se, O1.d, O2.d, O3.d, cmI, arI, envOf, putN, ↓reduceIte, Nat.reduceLT, Nat.reduceSub, Nat.reduceAdd, Int.reduceAdd, Int.reduceEq, Int.reduceLT, Int.reduceLE, arr_pos, arr_neg, C_impl_clone_int (upTo (fun k => l.getD k false) l.length) (by omega)]
theorem C_impl_listOf_tab (p : Nat → Bool) (n : Nat) (hn : n ≤ 1048576) (Q : List AV → Prop) : mc.C f_impl_listOf [⟨L B, tab p n⟩] Q = Q [⟨L I, upTo p n⟩] := by
 rw [C_impl_listOf _ (by rw [tab_len]; exact hn), tab_len, upTo_congr fun k hk => tab_get hk]
theorem C_impl_marks (l : List Int) (n : Nat) (hn : n ≤ 1048576) (hl : l.length ≤ 1048576) (h : ∀ x ∈ l, 0 ≤ x ∧ x < n) (Q : List AV → Prop) : mc.C f_impl_marks [⟨L I, l⟩, ⟨I, (n : Int)⟩] Q = Q [⟨L B, tab (fun k => dB ((k : Int) ∈ l)) n⟩] := by
 refine Mc.Ends.c (mc.ends F_impl_marks ?_)
 simp (contextual := true) (maxSteps := 1000000) (disch := omega) only [↓Sd, ↓So, ↓Sk, ↓den, ↓denA, Sa, Sb, Sc, Se, O1.d, O2.d, O3.d, cmI, arI, envOf, putN, ↓reduceIte, Nat.reduceLT, Nat.reduceSub, Nat.reduceAdd, Int.reduceAdd, Int.reduceEq, Int.reduceLT, Int.reduceLE, arr_pos, arr_neg, tr_impl_marks]
 refine mc.lp_for (List Bool) (fun i o => [⟨L I, l⟩, ⟨I, (l.length : Int)⟩, ⟨I, (i : Int)⟩, ⟨L B, o⟩]) (fun i o => o = tab (fun k => dB ((k : Int) ∈ l.take i)) n) l.length 0 (List.replicate n false) _ rfl (Nat.zero_le _) ?_ ?_ ?_
 ·rw [rep_tab]; exact tab_congr fun k _ => (dB_f (by simp)).symm
 ·rintro i o hi rfl
  have hx := h _ (getD_mem (d := 0) hi)
  simp (contextual := true) (maxSteps := 1000000) (disch := omega) only [↓Sd, ↓So, ↓Sk, ↓den, ↓denA, Sa, Sb, Sc, Se, O1.d, O2.d, O3.d, cmI, arI, envOf, putN, ↓reduceIte, Nat.reduceLT, Nat.reduceSub, Nat.reduceAdd, Int.reduceAdd, Int.reduceEq, Int.reduceLT, Int.reduceLE, arr_pos, arr_neg, tab_len, tab_set']
  refine tab_congr fun k hk => ?_
  by_cases hk2 : k = (l.getD i 0).toNat
  ·rw [if_pos hk2, dB_t]; exact (mem_take_next hi).2 (.inr (by omega))
  ·rw [if_neg hk2]; refine dB_congr ?_
   rw [mem_take_next hi]
   exact ⟨.inl, fun h => h.elim id fun h => absurd h (by omega)⟩
 ·rintro o rfl
  rw [List.take_length]
  simp (contextual := true) (maxSteps := 1000000) (disch := omega) only [↓Sd, ↓So, ↓Sk, ↓den, ↓denA, Sa, Sb, Sc, Se, O1.d, O2.d, O3.d, cmI, arI, envOf, putN, ↓reduceIte, Nat.reduceLT, Nat.reduceSub, Nat.reduceAdd, Int.reduceAdd, Int.reduceEq, Int.reduceLT, Int.reduceLE, arr_pos, arr_neg, ]
def setV (s : Sy) (l : List Int) : Prop := valid s ∧ lset l (sz s.1)
instance (s : Sy) (l : List Int) : Decidable (setV s l) := by unfold setV; infer_instance
theorem setV.n {s : Sy} {l : List Int} (h : setV s l) : lset l (szn s.1) := by rw [(szn_eq h.1).1]; exact h.2
theorem setV.len {s : Sy} {l : List Int} (h : setV s l) : l.length ≤ 400 := by
 have h1 := lset_len h.n (by omega)
 have h2 := szn_eq h.1
 omega
def ahead (T : List (List Int)) (p : Nat → Bool) (n : Nat) (k : Nat) : Prop := ∃ b, b < n ∧ p b = true ∧ (b : Int) ∈ T.getD k []
theorem C_spec_l2Has (l : List Int) (x : Int) (hl : l.length ≤ 1048576) (Q : List AV → Prop) : mc.C f_spec_l2Has [⟨L I, l⟩, ⟨I, x⟩] Q = Q [⟨B, dB (x ∈ l)⟩] := by
 refine Mc.Ends.c (mc.ends F_spec_l2Has ?_)
 generalize hK : dB (x ∈ l) = K
 simp (contextual := true) (maxSteps := 1000000) (disch := omega) only [↓Sd, ↓So, ↓Sk, ↓den, ↓denA, Sa, Sb, Sc, Se, O1.d, O2.d, O3.d, cmI, arI, envOf, putN, ↓reduceIte, Nat.reduceLT, Nat.reduceSub, Nat.reduceAdd, Int.reduceAdd, Int.reduceEq, Int.reduceLT, Int.reduceLE, arr_pos, arr_neg, tr_spec_l2Has]
 refine lp_all (fun i => [⟨L I, l⟩, ⟨I, x⟩, ⟨I, (i : Int)⟩]) (fun i => ¬ l.getD i 0 = x) l.length _ rfl ?_ ?_
 ·intro i hi
  simp (contextual := true) (maxSteps := 1000000) (disch := omega) only [↓Sd, ↓So, ↓Sk, ↓den, ↓denA, Sa, Sb, Sc, Se, O1.d, O2.d, O3.d, cmI, arI, envOf, putN, ↓reduceIte, Nat.reduceLT, Nat.reduceSub, Nat.reduceAdd, Int.reduceAdd, Int.reduceEq, Int.reduceLT, Int.reduceLE, arr_pos, arr_neg, ]
  intro h
  rw [← hK, dB_t]
  rw [← h]; exact getD_mem hi
 ·intro h
  simp (contextual := true) (maxSteps := 1000000) (disch := omega) only [↓Sd, ↓So, ↓Sk, ↓den, ↓denA, Sa, Sb, Sc, Se, O1.d, O2.d, O3.d, cmI, arI, envOf, putN, ↓reduceIte, Nat.reduceLT, Nat.reduceSub, Nat.reduceAdd, Int.reduceAdd, Int.reduceEq, Int.reduceLT, Int.reduceLE, arr_pos, arr_neg, ]
  rw [← hK, dB_f]
  intro hx
  obtain ⟨i, hi, rfl⟩ := List.getElem_of_mem hx
  exact h i hi (getD_lt hi)
theorem getD_set_ne {α : Type} {l : List α} {i j : Nat} {x d : α} (h : i ≠ j) : (l.set i x).getD j d = l.getD j d := by
 simp [List.getD_eq_getElem?_getD, List.getElem?_set, h]
def Same {α : Type} (l s : List α) (d : α) (i : Nat) : Prop := s.length = l.length ∧ ∀ j, i ≤ j → s.getD j d = l.getD j d
theorem Same.refl {α : Type} {l : List α} {d : α} {i : Nat} : Same l l d i := ⟨rfl, fun _ _ => rfl⟩
theorem Same.set {α : Type} {l s : List α} {d x : α} {i : Nat} (h : Same l s d i) : Same l (s.set i x) d (i + 1) :=
 ⟨by rw [List.length_set]; exact h.1, fun j hj => by rw [getD_set_ne (by omega)]; exact h.2 j (by omega)⟩
theorem iD {k : IntKind} {a b : Int} (h : a = b) : @Eq (Ty.int k).D a b := h
theorem mk_IntS (l : List Int) (k : Int) (hk : 0 ≤ k ∧ k ≤ 9200000000000000000) (hl : l.length ≤ 1048576) (Q : List AV → Prop) : mc.C f_laws_markIntS [⟨L I, l⟩, ⟨I, k⟩] Q = Q [⟨I, k + l.length⟩, ⟨L I, tab (fun i => k + (i : Int)) l.length⟩] := by
 refine Mc.Ends.c (mc.ends F_laws_markIntS ?_)
 simp (contextual := true) (maxSteps := 1000000) (disch := omega) only [↓Sd, ↓So, ↓Sk, ↓den, ↓denA, Sa, Sb, Sc, Se, O1.d, O2.d, O3.d, cmI, arI, envOf, putN, ↓reduceIte, Nat.reduceLT, Nat.reduceSub, Nat.reduceAdd, Int.reduceAdd, Int.reduceEq, Int.reduceLT, Int.reduceLE, arr_pos, arr_neg, tr_laws_markIntS]
 refine mc.lp_for (List Int) (fun i s => [⟨I, k + (i : Int)⟩, ⟨I, (i : Int)⟩, ⟨L I, s⟩]) (fun i s => s = tab (fun i => k + (i : Int)) i ++ l.drop i) l.length 0 l _ (by simp) (Nat.zero_le _) (by simp [tab]) ?_ ?_
 ·rintro i s hi rfl
  have hlen : (tab (fun i => k + (i : Int)) i).length + (l.drop i).length = l.length := by rw [tab_len, List.length_drop]; omega
  have e : (tab (fun i => k + (i : Int)) i ++ l.drop i).set i (k + i) = tab (fun i => k + (i : Int)) (i + 1) ++ l.drop (i + 1) := by
   rw [List.set_append_right _ _ (by rw [tab_len]; exact Nat.le_refl _), tab_len, Nat.sub_self, drop_cons (d := 0) hi, List.set_cons_zero, ← tab_next, List.append_assoc]; rfl
  simp (contextual := true) (maxSteps := 1000000) (disch := omega) only [↓Sd, ↓So, ↓Sk, ↓den, ↓denA, Sa, Sb, Sc, Se, O1.d, O2.d, O3.d, cmI, arI, envOf, putN, ↓reduceIte, Nat.reduceLT, Nat.reduceSub, Nat.reduceAdd, Int.reduceAdd, Int.reduceEq, Int.reduceLT, Int.reduceLE, arr_pos, arr_neg, e]
  exact ⟨_, ⟨iD (by omega), rfl⟩, rfl⟩
 ·rintro s rfl
  rw [List.drop_length, List.append_nil]
  simp (contextual := true) (maxSteps := 1000000) (disch := omega) only [↓Sd, ↓So, ↓Sk, ↓den, ↓denA, Sa, Sb, Sc, Se, O1.d, O2.d, O3.d, cmI, arI, envOf, putN, ↓reduceIte, Nat.reduceLT, Nat.reduceSub, Nat.reduceAdd, Int.reduceAdd, Int.reduceEq, Int.reduceLT, Int.reduceLE, arr_pos, arr_neg, tab_len]
theorem held_IntS (n : Nat) (k : Int) (hk : 0 ≤ k ∧ k ≤ 9200000000000000000) (hn : n ≤ 1048576) (Q : List AV → Prop) : mc.C f_laws_heldIntS [⟨L I, tab (fun i => k + (i : Int)) n⟩, ⟨I, k⟩] Q = Q [⟨I, k + n⟩] := by
 refine Mc.Ends.c (mc.ends F_laws_heldIntS ?_)
 simp (contextual := true) (maxSteps := 1000000) (disch := omega) only [↓Sd, ↓So, ↓Sk, ↓den, ↓denA, Sa, Sb, Sc, Se, O1.d, O2.d, O3.d, cmI, arI, envOf, putN, ↓reduceIte, Nat.reduceLT, Nat.reduceSub, Nat.reduceAdd, Int.reduceAdd, Int.reduceEq, Int.reduceLT, Int.reduceLE, arr_pos, arr_neg, tr_laws_heldIntS]
 refine mc.lp_for Unit (fun i s => [⟨L I, tab (fun i => k + (i : Int)) n⟩, ⟨I, k + (i : Int)⟩, ⟨I, (i : Int)⟩]) (fun i s => True) n 0 () _ (by simp) (Nat.zero_le _) trivial ?_ ?_
 ·rintro i - hi -
  simp (contextual := true) (maxSteps := 1000000) (disch := omega) only [↓Sd, ↓So, ↓Sk, ↓den, ↓denA, Sa, Sb, Sc, Se, O1.d, O2.d, O3.d, cmI, arI, envOf, putN, ↓reduceIte, Nat.reduceLT, Nat.reduceSub, Nat.reduceAdd, Int.reduceAdd, Int.reduceEq, Int.reduceLT, Int.reduceLE, arr_pos, arr_neg, tab_len, tab_get hi]
  exact iD (by omega)
 ·rintro - -
  simp (contextual := true) (maxSteps := 1000000) (disch := omega) only [↓Sd, ↓So, ↓Sk, ↓den, ↓denA, Sa, Sb, Sc, Se, O1.d, O2.d, O3.d, cmI, arI, envOf, putN, ↓reduceIte, Nat.reduceLT, Nat.reduceSub, Nat.reduceAdd, Int.reduceAdd, Int.reduceEq, Int.reduceLT, Int.reduceLE, arr_pos, arr_neg, tab_len]
theorem mk_VarS (l : List Vr) (k : Int) (hk : 0 ≤ k ∧ k ≤ 9200000000000000000) (hl : Few l) {Q : List AV → Prop} (h : ∀ l', Q [⟨I, k + 3 * l.length⟩, ⟨L V3, l'⟩]) : mc.C f_laws_markVarS [⟨L V3, l⟩, ⟨I, k⟩] Q := by
 have hl := few_lim hl
 refine mc.c_of F_laws_markVarS ?_
 simp (contextual := true) (maxSteps := 1000000) (disch := omega) only [↓Sd, ↓So, ↓Sk, ↓den, ↓denA, Sa, Sb, Sc, Se, O1.d, O2.d, O3.d, cmI, arI, envOf, putN, ↓reduceIte, Nat.reduceLT, Nat.reduceSub, Nat.reduceAdd, Int.reduceAdd, Int.reduceEq, Int.reduceLT, Int.reduceLE, arr_pos, arr_neg, tr_laws_markVarS]
 refine mc.lp_for (List Vr) (fun i s => [⟨I, k + 3 * (i : Int)⟩, ⟨I, (i : Int)⟩, ⟨L V3, s⟩]) (fun i s => s.length = l.length) l.length 0 l _ (by simp) (Nat.zero_le _) rfl ?_ ?_
 ·rintro i s hi hs
  simp (contextual := true) (maxSteps := 1000000) (disch := omega) only [↓Sd, ↓So, ↓Sk, ↓den, ↓denA, Sa, Sb, Sc, Se, O1.d, O2.d, O3.d, cmI, arI, envOf, putN, ↓reduceIte, Nat.reduceLT, Nat.reduceSub, Nat.reduceAdd, Int.reduceAdd, Int.reduceEq, Int.reduceLT, Int.reduceLE, arr_pos, arr_neg, List.length_set, getD_set_eq, List.set_set]
  exact ⟨_, ⟨iD (by omega), rfl⟩, by simp [hs]⟩
 ·rintro s hs
  simp (contextual := true) (maxSteps := 1000000) (disch := omega) only [↓Sd, ↓So, ↓Sk, ↓den, ↓denA, Sa, Sb, Sc, Se, O1.d, O2.d, O3.d, cmI, arI, envOf, putN, ↓reduceIte, Nat.reduceLT, Nat.reduceSub, Nat.reduceAdd, Int.reduceAdd, Int.reduceEq, Int.reduceLT, Int.reduceLE, arr_pos, arr_neg, ]
  exact h s
theorem mk_TermS (l : List Tm) (k : Int) (hk : 0 ≤ k ∧ k ≤ 9200000000000000000) (hl : Few l) {Q : List AV → Prop} (h : ∀ l', Q [⟨I, k + 4 * l.length⟩, ⟨L T4, l'⟩]) : mc.C f_laws_markTermS [⟨L T4, l⟩, ⟨I, k⟩] Q := by
 have hl := few_lim hl
 refine mc.c_of F_laws_markTermS ?_
 simp (contextual := true) (maxSteps := 1000000) (disch := omega) only [↓Sd, ↓So, ↓Sk, ↓den, ↓denA, Sa, Sb, Sc, Se, O1.d, O2.d, O3.d, cmI, arI, envOf, putN, ↓reduceIte, Nat.reduceLT, Nat.reduceSub, Nat.reduceAdd, Int.reduceAdd, Int.reduceEq, Int.reduceLT, Int.reduceLE, arr_pos, arr_neg, tr_laws_markTermS]
 refine mc.lp_for (List Tm) (fun i s => [⟨I, k + 4 * (i : Int)⟩, ⟨I, (i : Int)⟩, ⟨L T4, s⟩]) (fun i s => s.length = l.length) l.length 0 l _ (by simp) (Nat.zero_le _) rfl ?_ ?_
 ·rintro i s hi hs
  simp (contextual := true) (maxSteps := 1000000) (disch := omega) only [↓Sd, ↓So, ↓Sk, ↓den, ↓denA, Sa, Sb, Sc, Se, O1.d, O2.d, O3.d, cmI, arI, envOf, putN, ↓reduceIte, Nat.reduceLT, Nat.reduceSub, Nat.reduceAdd, Int.reduceAdd, Int.reduceEq, Int.reduceLT, Int.reduceLE, arr_pos, arr_neg, List.length_set, getD_set_eq, List.set_set]
  exact ⟨_, ⟨iD (by omega), rfl⟩, by simp [hs]⟩
 ·rintro s hs
  simp (contextual := true) (maxSteps := 1000000) (disch := omega) only [↓Sd, ↓So, ↓Sk, ↓den, ↓denA, Sa, Sb, Sc, Se, O1.d, O2.d, O3.d, cmI, arI, envOf, putN, ↓reduceIte, Nat.reduceLT, Nat.reduceSub, Nat.reduceAdd, Int.reduceAdd, Int.reduceEq, Int.reduceLT, Int.reduceLE, arr_pos, arr_neg, ]
  exact h s
theorem mk_TermSS (l : List (List Tm)) (k : Int) (hk : 0 ≤ k ∧ k ≤ 9100000000000000000) (hl : Few l) (hl2 : ∀ x ∈ l, Few x) {Q : List AV → Prop} (h : ∀ k' l', k ≤ k' ∧ k' ≤ k + 4398046511104 → Q [⟨I, k'⟩, ⟨L (L T4), l'⟩]) : mc.C f_laws_markTermSS [⟨L (L T4), l⟩, ⟨I, k⟩] Q := by
 have hl := few_lim hl
 refine mc.c_of F_laws_markTermSS ?_
 simp (contextual := true) (maxSteps := 1000000) (disch := omega) only [↓Sd, ↓So, ↓Sk, ↓den, ↓denA, Sa, Sb, Sc, Se, O1.d, O2.d, O3.d, cmI, arI, envOf, putN, ↓reduceIte, Nat.reduceLT, Nat.reduceSub, Nat.reduceAdd, Int.reduceAdd, Int.reduceEq, Int.reduceLT, Int.reduceLE, arr_pos, arr_neg, tr_laws_markTermSS]
 refine mc.lp_for (Int × List (List Tm)) (fun i s => [⟨I, s.1⟩, ⟨I, (i : Int)⟩, ⟨L (L T4), s.2⟩]) (fun i s => (k ≤ s.1 ∧ s.1 ≤ k + 4194304 * (i : Int)) ∧ Same l s.2 [] i) l.length 0 (k, l) _ (by simp) (Nat.zero_le _) ⟨⟨by simp, by simp⟩, Same.refl⟩ ?_ ?_
 ·rintro i ⟨m, s⟩ hi ⟨⟨hm1, hm2⟩, hs⟩
  simp only at hm1 hm2 hs
  have hsl := hs.1
  have hsi := hs.2 i (Nat.le_refl _)
  have hf := hl2 _ (getD_mem (d := []) hi)
  have hf' := few_lim hf
  simp (contextual := true) (maxSteps := 1000000) (disch := omega) only [↓Sd, ↓So, ↓Sk, ↓den, ↓denA, Sa, Sb, Sc, Se, O1.d, O2.d, O3.d, cmI, arI, envOf, putN, ↓reduceIte, Nat.reduceLT, Nat.reduceSub, Nat.reduceAdd, Int.reduceAdd, Int.reduceEq, Int.reduceLT, Int.reduceLE, arr_pos, arr_neg, hsi]
  refine mk_TermS _ m (by omega) hf fun l' => ?_
  simp (contextual := true) (maxSteps := 1000000) (disch := omega) only [↓Sd, ↓So, ↓Sk, ↓den, ↓denA, Sa, Sb, Sc, Se, O1.d, O2.d, O3.d, cmI, arI, envOf, putN, ↓reduceIte, Nat.reduceLT, Nat.reduceSub, Nat.reduceAdd, Int.reduceAdd, Int.reduceEq, Int.reduceLT, Int.reduceLE, arr_pos, arr_neg, ]
  exact ⟨(_, _), ⟨rfl, rfl⟩, ⟨by omega, by omega⟩, hs.set⟩
 ·rintro ⟨m, s⟩ ⟨⟨hm1, hm2⟩, hs⟩
  simp only at hm1 hm2 hs
  have hsl := hs.1
  simp (contextual := true) (maxSteps := 1000000) (disch := omega) only [↓Sd, ↓So, ↓Sk, ↓den, ↓denA, Sa, Sb, Sc, Se, O1.d, O2.d, O3.d, cmI, arI, envOf, putN, ↓reduceIte, Nat.reduceLT, Nat.reduceSub, Nat.reduceAdd, Int.reduceAdd, Int.reduceEq, Int.reduceLT, Int.reduceLE, arr_pos, arr_neg, ]
  exact h m s ⟨by omega, by omega⟩
theorem mk_RuleS (l : List Ru) (k : Int) (hk : 0 ≤ k ∧ k ≤ 4400000000000000000) (hl : Few l) (hl2 : ∀ x ∈ l, FewRu x) {Q : List AV → Prop} (h : ∀ k' l', k ≤ k' ∧ k' ≤ k + 4611691515985526784 → Q [⟨I, k'⟩, ⟨L TR, l'⟩]) : mc.C f_laws_markRuleS [⟨L TR, l⟩, ⟨I, k⟩] Q := by
 have hl := few_lim hl
 refine mc.c_of F_laws_markRuleS ?_
 simp (contextual := true) (maxSteps := 1000000) (disch := omega) only [↓Sd, ↓So, ↓Sk, ↓den, ↓denA, Sa, Sb, Sc, Se, O1.d, O2.d, O3.d, cmI, arI, envOf, putN, ↓reduceIte, Nat.reduceLT, Nat.reduceSub, Nat.reduceAdd, Int.reduceAdd, Int.reduceEq, Int.reduceLT, Int.reduceLE, arr_pos, arr_neg, tr_laws_markRuleS]
 refine mc.lp_for (Int × List Ru) (fun i s => [⟨I, s.1⟩, ⟨I, (i : Int)⟩, ⟨L TR, s.2⟩]) (fun i s => (k ≤ s.1 ∧ s.1 ≤ k + 4398051753984 * (i : Int)) ∧ Same l s.2 ([], [], []) i) l.length 0 (k, l) _ (by simp) (Nat.zero_le _) ⟨⟨by simp, by simp⟩, Same.refl⟩ ?_ ?_
 ·rintro i ⟨m, s⟩ hi ⟨⟨hm1, hm2⟩, hs⟩
  simp only at hm1 hm2 hs
  have hsl := hs.1
  have hsi := hs.2 i (Nat.le_refl _)
  obtain ⟨c1, c2, c3, c4⟩ := hl2 _ (getD_mem (d := ([], [], [])) hi)
  have c1' := few_lim c1
  have c2' := few_lim c2
  obtain ⟨r, hr⟩ : ∃ r, l.getD i ([], [], []) = r := ⟨_, rfl⟩
  rw [hr] at hsi c1 c2 c3 c4 c1' c2'
  simp (contextual := true) (maxSteps := 1000000) (disch := omega) only [↓Sd, ↓So, ↓Sk, ↓den, ↓denA, Sa, Sb, Sc, Se, O1.d, O2.d, O3.d, cmI, arI, envOf, putN, ↓reduceIte, Nat.reduceLT, Nat.reduceSub, Nat.reduceAdd, Int.reduceAdd, Int.reduceEq, Int.reduceLT, Int.reduceLE, arr_pos, arr_neg, hsi]
  refine mk_TermS r.1 m (by omega) c1 fun l1 => ?_
  simp (contextual := true) (maxSteps := 1000000) (disch := omega) only [↓Sd, ↓So, ↓Sk, ↓den, ↓denA, Sa, Sb, Sc, Se, O1.d, O2.d, O3.d, cmI, arI, envOf, putN, ↓reduceIte, Nat.reduceLT, Nat.reduceSub, Nat.reduceAdd, Int.reduceAdd, Int.reduceEq, Int.reduceLT, Int.reduceLE, arr_pos, arr_neg, hsi, List.length_set, getD_set_eq, List.set_set, mk_IntS r.2.1 (m + 4 * r.1.length) (by omega) (by omega)]
  refine mk_TermSS r.2.2 _ (by omega) c3 c4 fun k' l' hk' => ?_
  simp (contextual := true) (maxSteps := 1000000) (disch := omega) only [↓Sd, ↓So, ↓Sk, ↓den, ↓denA, Sa, Sb, Sc, Se, O1.d, O2.d, O3.d, cmI, arI, envOf, putN, ↓reduceIte, Nat.reduceLT, Nat.reduceSub, Nat.reduceAdd, Int.reduceAdd, Int.reduceEq, Int.reduceLT, Int.reduceLE, arr_pos, arr_neg, hsi, List.length_set, getD_set_eq, List.set_set]
  exact ⟨(_, _), ⟨rfl, rfl⟩, ⟨by omega, by omega⟩, hs.set⟩
 ·rintro ⟨m, s⟩ ⟨⟨hm1, hm2⟩, hs⟩
  simp only at hm1 hm2 hs
  have hsl := hs.1
  simp (contextual := true) (maxSteps := 1000000) (disch := omega) only [↓Sd, ↓So, ↓Sk, ↓den, ↓denA, Sa, Sb, Sc, Se, O1.d, O2.d, O3.d, cmI, arI, envOf, putN, ↓reduceIte, Nat.reduceLT, Nat.reduceSub, Nat.reduceAdd, Int.reduceAdd, Int.reduceEq, Int.reduceLT, Int.reduceLE, arr_pos, arr_neg, ]
  exact h m s ⟨by omega, by omega⟩
theorem mk_System (s : Sy) (k : Int) (hk : 0 ≤ k ∧ k ≤ 4000000000000000000) (h : FewSy s) {Q : List AV → Prop} (hQ : ∀ k' v r, k ≤ k' ∧ k' ≤ k + 4611691515988672512 → Q [⟨I, k'⟩, ⟨L V3, v⟩, ⟨L TR, r⟩]) : mc.C f_laws_markSystem [⟨L V3, s.1⟩, ⟨L TR, s.2⟩, ⟨I, k⟩] Q := by
 obtain ⟨h1, h2, h3⟩ := h
 have h1' := few_lim h1
 refine mc.c_of F_laws_markSystem ?_
 simp (contextual := true) (maxSteps := 1000000) (disch := omega) only [↓Sd, ↓So, ↓Sk, ↓den, ↓denA, Sa, Sb, Sc, Se, O1.d, O2.d, O3.d, cmI, arI, envOf, putN, ↓reduceIte, Nat.reduceLT, Nat.reduceSub, Nat.reduceAdd, Int.reduceAdd, Int.reduceEq, Int.reduceLT, Int.reduceLE, arr_pos, arr_neg, tr_laws_markSystem]
 refine mk_VarS _ k (by omega) h1 fun l' => ?_
 simp (contextual := true) (maxSteps := 1000000) (disch := omega) only [↓Sd, ↓So, ↓Sk, ↓den, ↓denA, Sa, Sb, Sc, Se, O1.d, O2.d, O3.d, cmI, arI, envOf, putN, ↓reduceIte, Nat.reduceLT, Nat.reduceSub, Nat.reduceAdd, Int.reduceAdd, Int.reduceEq, Int.reduceLT, Int.reduceLE, arr_pos, arr_neg, ]
 refine mk_RuleS _ _ (by omega) h2 h3 fun k' r hk' => ?_
 simp (contextual := true) (maxSteps := 1000000) (disch := omega) only [↓Sd, ↓So, ↓Sk, ↓den, ↓denA, Sa, Sb, Sc, Se, O1.d, O2.d, O3.d, cmI, arI, envOf, putN, ↓reduceIte, Nat.reduceLT, Nat.reduceSub, Nat.reduceAdd, Int.reduceAdd, Int.reduceEq, Int.reduceLT, Int.reduceLE, arr_pos, arr_neg, ]
 exact hQ k' _ r ⟨by omega, by omega⟩
theorem few_i {l : List Int} (h : l.length ≤ 1048576) : Few l := h
def vb (n w : Nat) : List Int := tab (fun i => ((n / 2 ^ (w - 1 - i) % 2 : Nat) : Int)) w
theorem least {P : Nat → Prop} (h : ∃ d, P d) : ∃ d, P d ∧ ∀ e, e < d → ¬ P e := by
 obtain ⟨d, hd⟩ := h
 induction d using Nat.strongRecOn with
 | ind d ih =>
  by_cases g : ∃ e, e < d ∧ P e
  ·obtain ⟨e, h1, h2⟩ := g; exact ih e h1 h2
  ·exact ⟨d, hd, fun e he hp => g ⟨e, he, hp⟩⟩
theorem cntF_congr {p q : Nat → Bool} {n : Nat} (h : ∀ k, k < n → p k = q k) : cntF p n = cntF q n := by
 unfold cntF
 rw [upTo_congr fun k hk => by rw [h k hk]]
structure Rnd (T : List (List Int)) (p : Nat → Bool) (n : Nat) (d a0 C : Nat) (ag : Bool) (f : Nat → Int) : Prop where
 ge : ∀ k, k < n → -1 ≤ f k
 zero : ∀ k, k < n → (f k = 0 ↔ p k = true)
 pre : ∀ k, k < n → 0 < f k → ∃ a, a < n ∧ f a + 1 = f k ∧ (k : Int) ∈ T.getD a []
 le : ∀ k, k < n → f k ≤ (d : Int) + 1
 closed : ∀ a, a < n → 0 ≤ f a → (f a < d ∨ f a = d ∧ a < a0) → ∀ k : Nat, (k : Int) ∈ T.getD a [] → 0 ≤ f k ∧ f k ≤ f a + 1
 none : ag = false → ∀ k, k < n → f k ≤ d
 cnt : cntF (fun k => decide (0 ≤ f k)) n ≤ C
 less : ag = true → cntF (fun k => decide (0 ≤ f k)) n < C
theorem Rnd.skip {T : List (List Int)} {p : Nat → Bool} {n d a0 C : Nat} {ag : Bool} {f : Nat → Int} (h : Rnd T p n d a0 C ag f) (ht : Tbl T n) (hx : f a0 = d → ∀ k : Nat, (k : Int) ∈ T.getD a0 [] → 0 ≤ f k) : Rnd T p n d (a0 + 1) C ag f := by
 refine ⟨h.ge, h.zero, h.pre, h.le, fun a h1 h2 h3 k hk => ?_, h.none, h.cnt, h.less⟩
 by_cases e : a = a0
 ·subst e
  rcases h3 with h3 | h3
  ·exact h.closed a h1 h2 (.inl h3) k hk
  ·have h4 := ht.row _ hk
   have h5 := h.le k (by omega)
   exact ⟨hx h3.1 k hk, by omega⟩
 ·refine h.closed a h1 h2 (h3.imp_right fun h4 => ⟨h4.1, ?_⟩) k hk
  omega
theorem Rch.trans {T : List (List Int)} {a b c : Nat} (h : Rch T [(a : Int)] b) (h2 : Rch T [(b : Int)] c) : Rch T [(a : Int)] c := by
 induction h2 with
 | base h3 => simp only [List.mem_singleton] at h3; have h3 := Int.ofNat_inj.1 h3; subst h3; exact h
 | step _ h3 ih => exact .step ih h3
theorem C_spec_TermsValid (l : List Tm) (vars : Int) (hl : Few l) (Q : List AV → Prop) : mc.C f_spec_TermsValid [⟨L T4, l⟩, ⟨I, vars⟩] Q = Q [⟨B, decide (((kdsOf l vars).length : Int) > 0)⟩] := by
 refine Mc.Ends.c (mc.ends F_spec_TermsValid ?_)
 simp (contextual := true) (maxSteps := 1000000) (disch := omega) only [↓Sd, ↓So, ↓Sk, ↓den, ↓denA, Sa, Sb, Sc, Se, O1.d, O2.d, O3.d, cmI, arI, envOf, putN, ↓reduceIte, Nat.reduceLT, Nat.reduceSub, Nat.reduceAdd, Int.reduceAdd, Int.reduceEq, Int.reduceLT, Int.reduceLE, arr_pos, arr_neg, tr_spec_TermsValid, C_spec_KindsOf l vars hl]
def fst1 (p : Nat → Bool) : Nat → Int
 | 0 => -1
 | n + 1 => if 0 ≤ fst1 p n then fst1 p n else if p n = true then (n : Int) else -1
def rbt (s : Sy) (a b : List Int) : Int := fst1 (fun r => decide (useM s.1 (s.2.getD r ([], [], [])) a ≠ [] ∧ useM s.1 (s.2.getD r ([], [], [])) a = b)) s.2.length
structure IsRun (s : Sy) (D : Nat) (f : Nat → List Int) : Prop where
 few : D < 500
 first : f 0 = fst0 s.1
 inr : ∀ e, e ≤ D → inR s.1 (f e)
 rule : ∀ e, e < D → 0 ≤ rbt s (f e) (f (e + 1))
def rules (s : Sy) (f : Nat → List Int) (D : Nat) : List Int := tab (fun e => rbt s (f e) (f (e + 1))) D
theorem IsRun.len {s : Sy} {D : Nat} {f : Nat → List Int} (hv : valid s) (h : IsRun s D f) {e : Nat} (he : e ≤ D) : (f e).length ≤ 1048576 := by
 have := (h.inr e he).1
 have := hv.1.2
 omega
def usb (s : Sy) (st : List Int) : List Int := upTo (fun k => decide (¬ useM s.1 (s.2.getD k ([], [], [])) st = [])) s.2.length
theorem C_impl_usableIn (s : Sy) (a : List Int) (h : valid s) (ha : inR s.1 a) (Q : List AV → Prop) : mc.C f_impl_usableIn [⟨L V3, s.1⟩, ⟨L TR, s.2⟩, ⟨L I, a⟩] Q = Q [⟨L I, usb s a⟩] := by
 refine Mc.Ends.c (mc.ends F_impl_usableIn ?_)
 simp (contextual := true) (maxSteps := 1000000) (disch := omega) only [↓Sd, ↓So, ↓Sk, ↓den, ↓denA, Sa, Sb, Sc, Se, O1.d, O2.d, O3.d, cmI, arI, envOf, putN, ↓reduceIte, Nat.reduceLT, Nat.reduceSub, Nat.reduceAdd, Int.reduceAdd, Int.reduceEq, Int.reduceLT, Int.reduceLE, arr_pos, arr_neg, tr_impl_usableIn]
 refine mc.lp_for (List Int) (fun i o => [⟨L I, a⟩, ⟨I, (s.2.length : Int)⟩, ⟨I, (i : Int)⟩, ⟨L V3, s.1⟩, ⟨L TR, s.2⟩, ⟨L I, o⟩]) (fun i o => o = upTo (fun k => decide (¬ useM s.1 (s.2.getD k ([], [], [])) a = [])) i) s.2.length 0 [] _ rfl (Nat.zero_le _) rfl ?_ ?_
 ·rintro i o hi rfl
  have h1 := @upTo_len (fun k => decide (¬ useM s.1 (s.2.getD k ([], [], [])) a = [])) i
  have h8 := h.2.1
  simp (contextual := true) (maxSteps := 1000000) (disch := omega) only [↓Sd, ↓So, ↓Sk, ↓den, ↓denA, Sa, Sb, Sc, Se, O1.d, O2.d, O3.d, cmI, arI, envOf, putN, ↓reduceIte, Nat.reduceLT, Nat.reduceSub, Nat.reduceAdd, Int.reduceAdd, Int.reduceEq, Int.reduceLT, Int.reduceLE, arr_pos, arr_neg, ↓wpJoin, C_impl_use s a i h ha hi]
  exact ⟨fun g => (upTo_s (p := fun k => decide (¬ useM s.1 (s.2.getD k ([], [], [])) a = [])) (decide_eq_true g)).symm, fun g => (upTo_n (p := fun k => decide (¬ useM s.1 (s.2.getD k ([], [], [])) a = [])) (by simpa using g)).symm⟩
 ·rintro o rfl
  have h1 := @upTo_len (fun k => decide (¬ useM s.1 (s.2.getD k ([], [], [])) a = [])) s.2.length
  have h8 := h.2.1
  simp (contextual := true) (maxSteps := 1000000) (disch := omega) only [↓Sd, ↓So, ↓Sk, ↓den, ↓denA, Sa, Sb, Sc, Se, O1.d, O2.d, O3.d, cmI, arI, envOf, putN, ↓reduceIte, Nat.reduceLT, Nat.reduceSub, Nat.reduceAdd, Int.reduceAdd, Int.reduceEq, Int.reduceLT, Int.reduceLE, arr_pos, arr_neg, C_impl_clone_int (upTo (fun k => decide (¬ useM s.1 (s.2.getD k ([], [], [])) a = [])) s.2.length) (by omega)]
  rfl
theorem C_slices_Contains_int (l : List Int) (x : Int) (hl : l.length ≤ 1048576) (Q : List AV → Prop) : mc.C f_slices_Contains_Sint_int [⟨L I, l⟩, ⟨I, x⟩] Q = Q [⟨B, dB (x ∈ l)⟩] := by
 have hI : ∀ {Q : List AV → Prop}, (∀ j : Int, (0 ≤ j ↔ x ∈ l) → Q [⟨I, j⟩]) → mc.C f_slices_Index_Sint_int [⟨L I, l⟩, ⟨I, x⟩] Q := by
  intro Q hQ
  refine mc.c_of F_slices_Index_Sint_int ?_
  simp (contextual := true) (maxSteps := 1000000) (disch := omega) only [↓Sd, ↓So, ↓Sk, ↓den, ↓denA, Sa, Sb, Sc, Se, O1.d, O2.d, O3.d, cmI, arI, envOf, putN, ↓reduceIte, Nat.reduceLT, Nat.reduceSub, Nat.reduceAdd, Int.reduceAdd, Int.reduceEq, Int.reduceLT, Int.reduceLE, arr_pos, arr_neg, tr_slices_Index_Sint_int]
  refine lp_all (fun i => [⟨L I, l⟩, ⟨I, x⟩, ⟨I, (l.length : Int)⟩, ⟨I, (i : Int)⟩]) (fun i => ¬ x = l.getD i 0) l.length _ rfl ?_ ?_
  ·intro i hi
   simp (contextual := true) (maxSteps := 1000000) (disch := omega) only [↓Sd, ↓So, ↓Sk, ↓den, ↓denA, Sa, Sb, Sc, Se, O1.d, O2.d, O3.d, cmI, arI, envOf, putN, ↓reduceIte, Nat.reduceLT, Nat.reduceSub, Nat.reduceAdd, Int.reduceAdd, Int.reduceEq, Int.reduceLT, Int.reduceLE, arr_pos, arr_neg, ]
   intro h
   refine hQ _ ⟨fun _ => ?_, fun _ => by omega⟩
   rw [h]; exact getD_mem hi
  ·intro h
   simp (contextual := true) (maxSteps := 1000000) (disch := omega) only [↓Sd, ↓So, ↓Sk, ↓den, ↓denA, Sa, Sb, Sc, Se, O1.d, O2.d, O3.d, cmI, arI, envOf, putN, ↓reduceIte, Nat.reduceLT, Nat.reduceSub, Nat.reduceAdd, Int.reduceAdd, Int.reduceEq, Int.reduceLT, Int.reduceLE, arr_pos, arr_neg, ]
   refine hQ _ ⟨fun h => by omega, fun hx => ?_⟩
   obtain ⟨i, hi, rfl⟩ := List.getElem_of_mem hx
   exact absurd (getD_lt hi).symm (h i hi)
 refine Mc.Ends.c (mc.ends F_slices_Contains_Sint_int ?_)
 simp (contextual := true) (maxSteps := 1000000) (disch := omega) only [↓Sd, ↓So, ↓Sk, ↓den, ↓denA, Sa, Sb, Sc, Se, O1.d, O2.d, O3.d, cmI, arI, envOf, putN, ↓reduceIte, Nat.reduceLT, Nat.reduceSub, Nat.reduceAdd, Int.reduceAdd, Int.reduceEq, Int.reduceLT, Int.reduceLE, arr_pos, arr_neg, tr_slices_Contains_Sint_int]
 refine hI fun j hj => ?_
 simp (contextual := true) (maxSteps := 1000000) (disch := omega) only [↓Sd, ↓So, ↓Sk, ↓den, ↓denA, Sa, Sb, Sc, Se, O1.d, O2.d, O3.d, cmI, arI, envOf, putN, ↓reduceIte, Nat.reduceLT, Nat.reduceSub, Nat.reduceAdd, Int.reduceAdd, Int.reduceEq, Int.reduceLT, Int.reduceLE, arr_pos, arr_neg, ]
 rw [← dB_eq]
 exact dB_congr hj
def tAt (l : List Tm) (i : Nat) : Tm := l.getD i (0, 0, 0, 0)
structure TmsOk (l : List Tm) (vars : Int) : Prop where
 vb : 0 ≤ vars ∧ vars ≤ 5
 len : 1 ≤ l.length ∧ l.length ≤ 40
 at' : ∀ i, i < l.length → (tAt l i).1 = 0 ∨ ((tAt l i).1 = 1 ∧ 0 ≤ (tAt l i).2.1 ∧ (tAt l i).2.1 < vars) ∨ (2 ≤ (tAt l i).1 ∧ (0 ≤ (tAt l i).2.2.1 ∧ (tAt l i).2.2.1 < i) ∧ 0 ≤ (tAt l i).2.2.2 ∧ (tAt l i).2.2.2 < i)
theorem kds_at {vars : Int} : ∀ {l : List Tm} {ks o : List Int}, kds vars l ks = some o → ∀ i, i < l.length → ∃ ks', ks'.length = ks.length + i ∧ kd (tAt l i) ks' vars ≠ 0
 | [], ks, o, _, i, hi => absurd hi (Nat.not_lt_zero _)
 | t :: l, ks, o, h, i, hi => by
  simp only [kds] at h
  split at h
  ·cases h
  ·rename_i h0
   cases i with
   | zero => exact ⟨ks, rfl, h0⟩
   | succ i =>
    obtain ⟨ks', h1, h2⟩ := kds_at h i (by simpa using hi)
    exact ⟨ks', by rw [h1]; simp only [List.length_append, List.length_cons, List.length_nil]; omega, h2⟩
theorem tms_ok {l : List Tm} {vars : Int} (h : kf l vars ≠ 0) : TmsOk l vars := by
 obtain ⟨o, h1, h2, -⟩ := kf_some h
 refine ⟨?_, h2, fun i hi => ?_⟩
 ·unfold kf kdsOf at h
  split at h
  ·rename_i h3; exact h3.1
  ·exact absurd rfl h
 ·obtain ⟨ks, h3, h4⟩ := kds_at h1 i hi
  simp only [List.length_nil, Nat.zero_add] at h3
  rcases kd_ne h4 with h5 | h5 | h5
  ·exact .inl h5.1
  ·exact .inr (.inl h5)
  ·rw [h3] at h5; exact .inr (.inr ⟨h5.1.1, h5.2.1, h5.2.2.1⟩)
inductive Nd (l : List Tm) : Nat → Prop
 | top : Nd l (l.length - 1)
 | arg {m j : Nat} : Nd l m → m < l.length → 2 ≤ (tAt l m).1 → (j = (tAt l m).2.2.1.toNat ∨ j = (tAt l m).2.2.2.toNat) → Nd l j
def NdI (l : List Tm) (i : Nat) (p : Nat → Bool) : Prop := ∀ j, j < l.length → (p j = true ↔ (j = l.length - 1 ∨ ∃ m, i ≤ m ∧ m < l.length ∧ Nd l m ∧ 2 ≤ (tAt l m).1 ∧ (j = (tAt l m).2.2.1.toNat ∨ j = (tAt l m).2.2.2.toNat)))
theorem NdI.at' {l : List Tm} {vars : Int} (ho : TmsOk l vars) {m : Nat} {p : Nat → Bool} (h : NdI l (m + 1) p) (hm : m < l.length) : p m = true ↔ Nd l m := by
 rw [h m hm]
 constructor
 ·rintro (h1 | ⟨a, h1, h2, h3, h4, h5⟩)
  ·rw [h1]; exact .top
  ·exact .arg h3 h2 h4 h5
 ·intro h1
  cases h1 with
  | top => exact .inl rfl
  | @arg a _ h2 h3 h4 h5 =>
   refine .inr ⟨a, ?_, h3, h2, h4, h5⟩
   rcases ho.at' a h3 with h6 | h6 | h6
   ·omega
   ·omega
   ·omega
theorem NdI.step {l : List Tm} {vars : Int} (ho : TmsOk l vars) {m : Nat} {p : Nat → Bool} (h : NdI l (m + 1) p) (hm : m < l.length) (hp : p m = true) (h2 : 2 ≤ (tAt l m).1) {q : Nat → Bool} (hq : ∀ j, q j = true ↔ (j = (tAt l m).2.2.2.toNat ∨ j = (tAt l m).2.2.1.toNat ∨ p j = true)) : NdI l m q := by
 intro j hj
 rw [hq, h j hj]
 have hN := (h.at' ho hm).1 hp
 constructor
 ·rintro (h1 | h1 | h1 | ⟨a, h1, h3⟩)
  ·exact .inr ⟨m, Nat.le_refl _, hm, hN, h2, .inr h1⟩
  ·exact .inr ⟨m, Nat.le_refl _, hm, hN, h2, .inl h1⟩
  ·exact .inl h1
  ·exact .inr ⟨a, by omega, h3⟩
 ·rintro (h1 | ⟨a, h1, h3, h4, h5, h6⟩)
  ·exact .inr (.inr (.inl h1))
  ·by_cases e : a = m
   ·subst e
    rcases h6 with h6 | h6
    ·exact .inr (.inl h6)
    ·exact .inl h6
   ·exact .inr (.inr (.inr ⟨a, by omega, h3, h4, h5, h6⟩))
theorem NdI.skip {l : List Tm} {vars : Int} (ho : TmsOk l vars) {m : Nat} {p : Nat → Bool} (h : NdI l (m + 1) p) (hm : m < l.length) (hp : p m = false ∨ (tAt l m).1 < 2) : NdI l m p := by
 intro j hj
 rw [h j hj]
 constructor
 ·rintro (h1 | ⟨a, h1, h3⟩)
  ·exact .inl h1
  ·exact .inr ⟨a, by omega, h3⟩
 ·rintro (h1 | ⟨a, h1, h3, h4, h5, h6⟩)
  ·exact .inl h1
  ·by_cases e : a = m
   ·subst e
    rcases hp with hp | hp
    ·have := (h.at' ho hm).2 h4
     rw [this] at hp; cases hp
    ·omega
   ·exact .inr ⟨a, by omega, h3, h4, h5, h6⟩
theorem NdI.end' {l : List Tm} {vars : Int} (ho : TmsOk l vars) {p : Nat → Bool} (h : NdI l 0 p) {j : Nat} (hj : j < l.length) : p j = true ↔ Nd l j := by
 rw [h j hj]
 constructor
 ·rintro (h1 | ⟨a, h1, h2, h3, h4, h5⟩)
  ·rw [h1]; exact .top
  ·exact .arg h3 h2 h4 h5
 ·intro h1
  cases h1 with
  | top => exact .inl rfl
  | @arg a _ h2 h3 h4 h5 => exact .inr ⟨a, Nat.zero_le _, h3, h2, h4, h5⟩
theorem NdI.start {l : List Tm} : NdI l l.length (fun j => decide (j = l.length - 1)) := by
 intro j hj
 simp only [decide_eq_true_eq]
 constructor
 ·intro h; exact .inl h
 ·rintro (h | ⟨a, h1, h2, _⟩)
  ·exact h
  ·omega
def Us (l : List Tm) (x : Int) : Prop := ∃ i, i < l.length ∧ Nd l i ∧ (tAt l i).1 = 1 ∧ (tAt l i).2.1 = x
noncomputable def usL (l : List Tm) (vars : Nat) : List Int := upTo (fun k => dB (Us l k)) vars
def UsI (l : List Tm) (i : Nat) (u : Nat → Bool) : Prop := ∀ x : Nat, u x = true ↔ ∃ m, i ≤ m ∧ m < l.length ∧ Nd l m ∧ (tAt l m).1 = 1 ∧ (tAt l m).2.1 = x
theorem C_impl_usedBy (l : List Tm) (vars : Nat) (ho : TmsOk l vars) (Q : List AV → Prop) : mc.C f_impl_usedBy [⟨L T4, l⟩, ⟨I, (vars : Int)⟩] Q = Q [⟨L I, usL l vars⟩] := by
 refine Mc.Ends.c (mc.ends F_impl_usedBy ?_)
 have hl := ho.len
 have hv := ho.vb
 have hr1 : (List.replicate l.length false).set (l.length - 1) true = tab (fun j => decide (j = l.length - 1)) l.length := by
  rw [rep_tab, tab_set']
  refine tab_congr fun k hk => ?_
  by_cases e : k = l.length - 1 <;> simp [e]
 have hr2 : List.replicate vars false = tab (fun _ => false) vars := rep_tab
 simp (contextual := true) (maxSteps := 1000000) (disch := omega) only [↓Sd, ↓So, ↓Sk, ↓den, ↓denA, Sa, Sb, Sc, Se, O1.d, O2.d, O3.d, cmI, arI, envOf, putN, ↓reduceIte, Nat.reduceLT, Nat.reduceSub, Nat.reduceAdd, Int.reduceAdd, Int.reduceEq, Int.reduceLT, Int.reduceLE, arr_pos, arr_neg, tr_impl_usedBy, List.length_replicate, hr1, hr2]
 refine mc.lp_down ((Nat → Bool) × (Nat → Bool)) (fun i p => [⟨L T4, l⟩, ⟨I, (i : Int) - 1⟩, ⟨L B, tab p.1 l.length⟩, ⟨L B, tab p.2 vars⟩]) (fun i p => i ≤ l.length ∧ NdI l i p.1 ∧ UsI l i p.2) l.length (_, _) _ rfl ⟨Nat.le_refl _, NdI.start, fun x => ⟨fun h => by simp at h, fun ⟨m, h1, h2, _⟩ => by omega⟩⟩ ?_ ?_
 ·rintro i ⟨p, u⟩ ⟨h1, h2, h3⟩
  simp only at h2 h3
  have hi : i < l.length := by omega
  obtain ⟨t, ht⟩ : ∃ t, l.getD i (0, 0, 0, 0) = t := ⟨_, rfl⟩
  have hat := ho.at' i hi
  have htt : tAt l i = t := ht
  rw [htt] at hat
  have hsk : (p i = false ∨ t.1 < 2) → ¬ (p i = true ∧ t.1 = 1) → i ≤ l.length ∧ NdI l i p ∧ UsI l i u := fun g1 g2 => by
   refine ⟨by omega, h2.skip ho hi (by rw [htt]; exact g1), fun x => (h3 x).trans ⟨fun ⟨m, a1, a2⟩ => ⟨m, by omega, a2⟩, fun ⟨m, a1, a2, a3, a4, a5⟩ => ?_⟩⟩
   by_cases e : m = i
   ·subst e
    rw [htt] at a4
    exact absurd ⟨(h2.at' ho hi).2 a3, a4⟩ g2
   ·exact ⟨m, by omega, a2, a3, a4, a5⟩
  simp (contextual := true) (maxSteps := 1000000) (disch := omega) only [↓Sd, ↓So, ↓Sk, ↓den, ↓denA, Sa, Sb, Sc, Se, O1.d, O2.d, O3.d, cmI, arI, envOf, putN, ↓reduceIte, Nat.reduceLT, Nat.reduceSub, Nat.reduceAdd, Int.reduceAdd, Int.reduceEq, Int.reduceLT, Int.reduceLE, arr_pos, arr_neg, ↓wpJoin, ht, tab_len, tab_get hi]
  refine ⟨fun g => ⟨(p, u), ⟨rfl, rfl⟩, hsk (.inl g) (by rw [g]; simp)⟩, fun g => ⟨fun g0 => ⟨(p, u), ⟨rfl, rfl⟩, hsk (.inr (by omega)) (by omega)⟩, fun g0 => ⟨fun g1 => ?_, fun g1 => ?_⟩⟩⟩
  ·have hn : 0 ≤ t.2.1 ∧ t.2.1 < vars := by
    rcases hat with h5 | h5 | h5
    ·omega
    ·exact h5.2
    ·omega
   have hp : p i = true := by simpa using g
   refine ⟨(p, fun k => if k = t.2.1.toNat then true else u k), ⟨rfl, tab_set'⟩, by omega, h2.skip ho hi (.inr (by rw [htt]; omega)), fun x => ?_⟩
   show (if x = t.2.1.toNat then true else u x) = true ↔ _
   constructor
   ·intro g3
    by_cases e : x = t.2.1.toNat
    ·exact ⟨i, Nat.le_refl _, hi, (h2.at' ho hi).1 hp, by rw [htt]; exact g1, by rw [htt]; omega⟩
    ·rw [if_neg e] at g3
     obtain ⟨m, a1, a2⟩ := (h3 x).1 g3
     exact ⟨m, by omega, a2⟩
   ·rintro ⟨m, a1, a2, a3, a4, a5⟩
    by_cases e : m = i
    ·subst e
     rw [htt] at a5
     rw [if_pos (by omega)]
    ·split
     ·rfl
     ·exact (h3 x).2 ⟨m, by omega, a2, a3, a4, a5⟩
  ·have ha : 2 ≤ t.1 ∧ (0 ≤ t.2.2.1 ∧ t.2.2.1 < i) ∧ 0 ≤ t.2.2.2 ∧ t.2.2.2 < i := by
    rcases hat with h5 | h5 | h5
    ·omega
    ·omega
    ·exact h5
   have hp : p i = true := by simpa using g
   refine ⟨by rw [List.length_set, tab_len]; omega, ?_⟩
   refine ⟨(fun k => if k = t.2.2.2.toNat then true else if k = t.2.2.1.toNat then true else p k, u), ⟨by rw [tab_set', tab_set'], rfl⟩, by omega, h2.step ho hi hp (by rw [htt]; exact ha.1) (fun j => ?_), fun x => (h3 x).trans ⟨fun ⟨m, a1, a2⟩ => ⟨m, by omega, a2⟩, fun ⟨m, a1, a2, a3, a4, a5⟩ => ?_⟩⟩
   ·show (if j = t.2.2.2.toNat then true else if j = t.2.2.1.toNat then true else p j) = true ↔ _
    rw [htt]
    by_cases e1 : j = t.2.2.2.toNat
    ·simp [e1]
    ·by_cases e2 : j = t.2.2.1.toNat
     ·simp [e2]
     ·simp [e1, e2]
   ·by_cases e : m = i
    ·subst e
     rw [htt] at a4; omega
    ·exact ⟨m, by omega, a2, a3, a4, a5⟩
 ·rintro ⟨p, u⟩ ⟨h1, h2, h3⟩
  simp only at h2 h3
  have hu : ∀ k, u k = dB (Us l k) := fun k => by
   rw [← Bool.eq_iff_iff.2 (show u k = true ↔ dB (Us l k) = true from ?_)]
   rw [h3 k, dB_iff]
   exact ⟨fun ⟨m, a1, a2⟩ => ⟨m, a2⟩, fun ⟨m, a2⟩ => ⟨m, Nat.zero_le _, a2⟩⟩
  have hul := @upTo_len (fun k => dB (Us l k)) vars
  simp (contextual := true) (maxSteps := 1000000) (disch := omega) only [↓Sd, ↓So, ↓Sk, ↓den, ↓denA, Sa, Sb, Sc, Se, O1.d, O2.d, O3.d, cmI, arI, envOf, putN, ↓reduceIte, Nat.reduceLT, Nat.reduceSub, Nat.reduceAdd, Int.reduceAdd, Int.reduceEq, Int.reduceLT, Int.reduceLE, arr_pos, arr_neg, tab_len]
  refine mc.lp_for (List Int) (fun i o => [⟨I, (vars : Int)⟩, ⟨I, (i : Int)⟩, ⟨L I, o⟩, ⟨L B, tab u vars⟩]) (fun i o => o = upTo (fun k => dB (Us l k)) i) vars 0 [] _ rfl (Nat.zero_le _) rfl ?_ ?_
  ·rintro i o hi rfl
   have h1 := @upTo_len (fun k => dB (Us l k)) i
   simp (contextual := true) (maxSteps := 1000000) (disch := omega) only [↓Sd, ↓So, ↓Sk, ↓den, ↓denA, Sa, Sb, Sc, Se, O1.d, O2.d, O3.d, cmI, arI, envOf, putN, ↓reduceIte, Nat.reduceLT, Nat.reduceSub, Nat.reduceAdd, Int.reduceAdd, Int.reduceEq, Int.reduceLT, Int.reduceLE, arr_pos, arr_neg, ↓wpJoin, tab_len, tab_get hi, hu]
   exact ⟨fun g => (upTo_s (p := fun k => dB (Us l k)) g).symm, fun g => (upTo_n (p := fun k => dB (Us l k)) g).symm⟩
  ·rintro o rfl
   simp (contextual := true) (maxSteps := 1000000) (disch := omega) only [↓Sd, ↓So, ↓Sk, ↓den, ↓denA, Sa, Sb, Sc, Se, O1.d, O2.d, O3.d, cmI, arI, envOf, putN, ↓reduceIte, Nat.reduceLT, Nat.reduceSub, Nat.reduceAdd, Int.reduceAdd, Int.reduceEq, Int.reduceLT, Int.reduceLE, arr_pos, arr_neg, C_impl_clone_int (upTo (fun k => dB (Us l k)) vars) (by omega)]
   rfl
theorem C_spec_l1Needed (l : List Tm) (vars : Int) (ho : TmsOk l vars) {Q : List AV → Prop} (hQ : ∀ p : Nat → Bool, (∀ j, j < l.length → (p j = true ↔ Nd l j)) → Q [⟨L B, tab p l.length⟩]) : mc.C f_spec_l1Needed [⟨L T4, l⟩] Q := by
 refine mc.c_of F_spec_l1Needed ?_
 have hl := ho.len
 simp (contextual := true) (maxSteps := 1000000) (disch := omega) only [↓Sd, ↓So, ↓Sk, ↓den, ↓denA, Sa, Sb, Sc, Se, O1.d, O2.d, O3.d, cmI, arI, envOf, putN, ↓reduceIte, Nat.reduceLT, Nat.reduceSub, Nat.reduceAdd, Int.reduceAdd, Int.reduceEq, Int.reduceLT, Int.reduceLE, arr_pos, arr_neg, tr_spec_l1Needed]
 refine mc.lp_for (List Bool) (fun i o => [⟨L T4, l⟩, ⟨I, (i : Int)⟩, ⟨L B, o⟩]) (fun i o => o = tab (fun j => decide (j = l.length - 1)) i) l.length 0 [] _ rfl (Nat.zero_le _) rfl ?_ ?_
 ·rintro i o hi rfl
  simp (contextual := true) (maxSteps := 1000000) (disch := omega) only [↓Sd, ↓So, ↓Sk, ↓den, ↓denA, Sa, Sb, Sc, Se, O1.d, O2.d, O3.d, cmI, arI, envOf, putN, ↓reduceIte, Nat.reduceLT, Nat.reduceSub, Nat.reduceAdd, Int.reduceAdd, Int.reduceEq, Int.reduceLT, Int.reduceLE, arr_pos, arr_neg, tab_len]
  rw [← tab_next]
  congr 2
  by_cases e : i = l.length - 1
  ·rw [decide_eq_true e, beq_iff_eq]; omega
  ·rw [decide_eq_false e, beq_eq_false_iff_ne]; omega
 rintro o rfl
 simp (contextual := true) (maxSteps := 1000000) (disch := omega) only [↓Sd, ↓So, ↓Sk, ↓den, ↓denA, Sa, Sb, Sc, Se, O1.d, O2.d, O3.d, cmI, arI, envOf, putN, ↓reduceIte, Nat.reduceLT, Nat.reduceSub, Nat.reduceAdd, Int.reduceAdd, Int.reduceEq, Int.reduceLT, Int.reduceLE, arr_pos, arr_neg, ]
 refine mc.lp_down (Nat → Bool) (fun i p => [⟨L T4, l⟩, ⟨I, (i : Int) - 1⟩, ⟨L B, tab p l.length⟩]) (fun i p => i ≤ l.length ∧ NdI l i p) l.length _ _ rfl ⟨Nat.le_refl _, NdI.start⟩ ?_ ?_
 ·rintro i p ⟨h1, h2⟩
  have hi : i < l.length := by omega
  obtain ⟨t, ht⟩ : ∃ t, l.getD i (0, 0, 0, 0) = t := ⟨_, rfl⟩
  have hat := ho.at' i hi
  have htt : tAt l i = t := ht
  rw [htt] at hat
  simp (contextual := true) (maxSteps := 1000000) (disch := omega) only [↓Sd, ↓So, ↓Sk, ↓den, ↓denA, Sa, Sb, Sc, Se, O1.d, O2.d, O3.d, cmI, arI, envOf, putN, ↓reduceIte, Nat.reduceLT, Nat.reduceSub, Nat.reduceAdd, Int.reduceAdd, Int.reduceEq, Int.reduceLT, Int.reduceLE, arr_pos, arr_neg, ↓wpJoin, ht, tab_len, tab_get hi]
  refine ⟨fun hp => ⟨fun g1 => ⟨?_, fun k => if k = t.2.2.2.toNat then true else if k = t.2.2.1.toNat then true else p k, by rw [tab_set', tab_set'], by omega, h2.step ho hi hp (by rw [htt]; exact g1) (fun j => ?_)⟩, fun g1 => ⟨p, rfl, by omega, h2.skip ho hi (.inr (by rw [htt]; omega))⟩⟩, fun g => ⟨p, rfl, by omega, h2.skip ho hi (.inl (by simpa using g))⟩⟩
  ·rw [List.length_set, tab_len]; omega
  ·show (if j = t.2.2.2.toNat then true else if j = t.2.2.1.toNat then true else p j) = true ↔ _
   rw [htt]
   by_cases e1 : j = t.2.2.2.toNat
   ·simp [e1]
   ·by_cases e2 : j = t.2.2.1.toNat
    ·simp [e2]
    ·simp [e1, e2]
 ·rintro p ⟨h1, h2⟩
  simp (contextual := true) (maxSteps := 1000000) (disch := omega) only [↓Sd, ↓So, ↓Sk, ↓den, ↓denA, Sa, Sb, Sc, Se, O1.d, O2.d, O3.d, cmI, arI, envOf, putN, ↓reduceIte, Nat.reduceLT, Nat.reduceSub, Nat.reduceAdd, Int.reduceAdd, Int.reduceEq, Int.reduceLT, Int.reduceLE, arr_pos, arr_neg, ]
  exact hQ p fun j hj => h2.end' ho hj
theorem C_spec_UsedBy (l : List Tm) (vars : Nat) (hf : Few l) (hk : kf l vars ≠ 0) (Q : List AV → Prop) : mc.C f_spec_UsedBy [⟨L T4, l⟩, ⟨I, (vars : Int)⟩] Q = Q [⟨L I, usL l vars⟩] := by
 refine Mc.Ends.c (mc.ends F_spec_UsedBy ?_)
 have ho := tms_ok hk
 have hl := ho.len
 have hv := ho.vb
 have hul := @upTo_len (fun k => dB (Us l k)) vars
 simp (contextual := true) (maxSteps := 1000000) (disch := omega) only [↓Sd, ↓So, ↓Sk, ↓den, ↓denA, Sa, Sb, Sc, Se, O1.d, O2.d, O3.d, cmI, arI, envOf, putN, ↓reduceIte, Nat.reduceLT, Nat.reduceSub, Nat.reduceAdd, Int.reduceAdd, Int.reduceEq, Int.reduceLT, Int.reduceLE, arr_pos, arr_neg, tr_spec_UsedBy, C_spec_TermsValid l vars hf]
 refine ⟨fun g => absurd (kf_nil (by omega)) hk, fun _ => ?_⟩
 refine C_spec_l1Needed l vars ho fun p hp => ?_
 simp (contextual := true) (maxSteps := 1000000) (disch := omega) only [↓Sd, ↓So, ↓Sk, ↓den, ↓denA, Sa, Sb, Sc, Se, O1.d, O2.d, O3.d, cmI, arI, envOf, putN, ↓reduceIte, Nat.reduceLT, Nat.reduceSub, Nat.reduceAdd, Int.reduceAdd, Int.reduceEq, Int.reduceLT, Int.reduceLE, arr_pos, arr_neg, ]
 refine mc.lp_for (List Int) (fun x o => [⟨L T4, l⟩, ⟨I, (vars : Int)⟩, ⟨I, (x : Int)⟩, ⟨L I, o⟩, ⟨L B, tab p l.length⟩]) (fun x o => o = upTo (fun k => dB (Us l k)) x) vars 0 [] _ rfl (Nat.zero_le _) rfl ?_ ?_
 ·rintro x o hx rfl
  have h1 := @upTo_len (fun k => dB (Us l k)) x
  simp (contextual := true) (maxSteps := 1000000) (disch := omega) only [↓Sd, ↓So, ↓Sk, ↓den, ↓denA, Sa, Sb, Sc, Se, O1.d, O2.d, O3.d, cmI, arI, envOf, putN, ↓reduceIte, Nat.reduceLT, Nat.reduceSub, Nat.reduceAdd, Int.reduceAdd, Int.reduceEq, Int.reduceLT, Int.reduceLE, arr_pos, arr_neg, ↓wpJoin, ]
  refine mc.lp_for Bool (fun i b => [⟨L T4, l⟩, ⟨I, (vars : Int)⟩, ⟨I, (x : Int)⟩, ⟨B, b⟩, ⟨I, (i : Int)⟩, ⟨L I, upTo (fun k => dB (Us l k)) x⟩, ⟨L B, tab p l.length⟩]) (fun i b => b = dB (∃ m, m < i ∧ Nd l m ∧ (tAt l m).1 = 1 ∧ (tAt l m).2.1 = x)) l.length 0 false _ rfl (Nat.zero_le _) (dB_f fun ⟨m, h, _⟩ => absurd h (Nat.not_lt_zero _)).symm ?_ ?_
  ·rintro i b hi rfl
   obtain ⟨t, ht⟩ : ∃ t, l.getD i (0, 0, 0, 0) = t := ⟨_, rfl⟩
   have htt : tAt l i = t := ht
   have hpi := hp i hi
   have hno : ¬ (Nd l i ∧ t.1 = 1 ∧ t.2.1 = x) → dB (∃ m, m < i ∧ Nd l m ∧ (tAt l m).1 = 1 ∧ (tAt l m).2.1 = x) = dB (∃ m, m < i + 1 ∧ Nd l m ∧ (tAt l m).1 = 1 ∧ (tAt l m).2.1 = x) := fun g => dB_congr ⟨fun ⟨m, a1, a2⟩ => ⟨m, by omega, a2⟩, fun ⟨m, a1, a2⟩ => by
    by_cases e : m = i
    ·subst e; rw [htt] at a2; exact absurd a2 g
    ·exact ⟨m, by omega, a2⟩⟩
   simp (contextual := true) (maxSteps := 1000000) (disch := omega) only [↓Sd, ↓So, ↓Sk, ↓den, ↓denA, Sa, Sb, Sc, Se, O1.d, O2.d, O3.d, cmI, arI, envOf, putN, ↓reduceIte, Nat.reduceLT, Nat.reduceSub, Nat.reduceAdd, Int.reduceAdd, Int.reduceEq, Int.reduceLT, Int.reduceLE, arr_pos, arr_neg, ↓wpJoin, ht, tab_len, tab_get hi]
   refine ⟨fun g => ?_, fun g => ⟨fun g1 => ⟨fun g2 => ?_, fun g2 => ?_⟩, fun g1 => ?_⟩⟩
   ·symm
    rw [dB_t]
    obtain ⟨m, a1, a2⟩ := dB_iff.1 g
    exact ⟨m, by omega, a2⟩
   ·by_cases e : t.2.1 = x
    ·rw [dB_t ⟨i, by omega, hpi.1 g1, by rw [htt]; exact g2, by rw [htt]; exact e⟩]
     simpa using e
    ·rw [← hno fun h => e h.2.2, dB_f fun h => g (dB_t h)]
     simpa using e
   ·rw [← hno fun h => g2 h.2.1]
    exact (dB_f fun h => g (dB_t h)).symm
   ·rw [← hno fun h => g1 (hpi.2 h.1)]
    exact (dB_f fun h => g (dB_t h)).symm
  ·rintro b rfl
   have e : dB (∃ m, m < l.length ∧ Nd l m ∧ (tAt l m).1 = 1 ∧ (tAt l m).2.1 = x) = dB (Us l x) := rfl
   rw [e]
   simp (contextual := true) (maxSteps := 1000000) (disch := omega) only [↓Sd, ↓So, ↓Sk, ↓den, ↓denA, Sa, Sb, Sc, Se, O1.d, O2.d, O3.d, cmI, arI, envOf, putN, ↓reduceIte, Nat.reduceLT, Nat.reduceSub, Nat.reduceAdd, Int.reduceAdd, Int.reduceEq, Int.reduceLT, Int.reduceLE, arr_pos, arr_neg, ]
   exact ⟨fun g => (upTo_s (p := fun k => dB (Us l k)) g).symm, fun g => (upTo_n (p := fun k => dB (Us l k)) g).symm⟩
 ·rintro o rfl
  simp (contextual := true) (maxSteps := 1000000) (disch := omega) only [↓Sd, ↓So, ↓Sk, ↓den, ↓denA, Sa, Sb, Sc, Se, O1.d, O2.d, O3.d, cmI, arI, envOf, putN, ↓reduceIte, Nat.reduceLT, Nat.reduceSub, Nat.reduceAdd, Int.reduceAdd, Int.reduceEq, Int.reduceLT, Int.reduceLE, arr_pos, arr_neg, ]
  rfl
theorem insZ_mem {x y : Int} : ∀ {l : List Int}, y ∈ insZ x l ↔ y = x ∨ y ∈ l
 | [] => by simp [insZ]
 | z :: l => by
  unfold insZ
  split
  ·simp
  ·simp only [List.mem_cons, insZ_mem (l := l)]
   constructor
   ·rintro (h | h | h)
    ·exact .inr (.inl h)
    ·exact .inl h
    ·exact .inr (.inr h)
   ·rintro (h | h | h)
    ·exact .inr (.inl h)
    ·exact .inl h
    ·exact .inr (.inr h)
theorem srtZ_mem {y : Int} : ∀ {l : List Int}, y ∈ srtZ l ↔ y ∈ l
 | [] => Iff.rfl
 | x :: l => by rw [srtZ, insZ_mem, srtZ_mem (l := l), List.mem_cons]
theorem insZ_len {x : Int} : ∀ {l : List Int}, (insZ x l).length = l.length + 1
 | [] => rfl
 | z :: l => by
  unfold insZ
  split
  ·rfl
  ·simp only [List.length_cons, insZ_len (l := l)]
theorem srtZ_len : ∀ {l : List Int}, (srtZ l).length = l.length
 | [] => rfl
 | x :: l => by rw [srtZ, insZ_len, srtZ_len (l := l), List.length_cons]
theorem cptZ_mem {y : Int} : ∀ {l : List Int}, y ∈ cptZ l ↔ y ∈ l
 | [] => Iff.rfl
 | [x] => Iff.rfl
 | x :: z :: l => by
  have ih := cptZ_mem (y := y) (l := z :: l)
  show y ∈ (if x = z then cptZ (z :: l) else x :: cptZ (z :: l)) ↔ _
  split
  ·rename_i h
   rw [ih, h]; simp
  ·rw [List.mem_cons, ih, List.mem_cons (a := y) (b := x)]
theorem cptZ_len : ∀ {l : List Int}, (cptZ l).length ≤ l.length
 | [] => Nat.le_refl _
 | [x] => Nat.le_refl _
 | x :: z :: l => by
  have ih := cptZ_len (l := z :: l)
  show (if x = z then cptZ (z :: l) else x :: cptZ (z :: l)).length ≤ _
  split <;> simp only [List.length_cons] at ih ⊢ <;> omega
def rl (s : Sy) (i : Nat) : Ru := s.2.getD i ([], [], [])
theorem rl_ok {s : Sy} (h : valid s) {i : Nat} (hi : i < s.2.length) : rOk (rl s i) s.1.length := h.2.2.2.1 _ (getD_mem hi)
noncomputable def tcA (n : Nat) (r : Ru) (k : Nat) : List Int := usL r.1 n ++ ((r.2.2.take k).map fun t => usL t n).flatten
theorem tcA_next {n k : Nat} {r : Ru} (h : k < r.2.2.length) : tcA n r (k + 1) = tcA n r k ++ usL (r.2.2.getD k []) n := by
 unfold tcA
 rw [List.take_succ_eq_append_getElem h, List.map_append, List.flatten_append, getD_lt h, List.append_assoc]
 simp
theorem usL_len {l : List Tm} {n : Nat} : (usL l n).length ≤ n := upTo_len
theorem tcA_len {n k : Nat} {r : Ru} (h : k ≤ r.2.2.length) : (tcA n r k).length ≤ n * (k + 1) := by
 induction k with
 | zero => simpa [tcA] using usL_len
 | succ k ih =>
  rw [tcA_next (by omega), List.length_append]
  have := @usL_len (r.2.2.getD k []) n
  have := ih (by omega)
  rw [Nat.mul_add n (k + 1) 1]; omega
noncomputable def tcL (n : Nat) (r : Ru) : List Int := cptZ (srtZ (tcA n r r.2.2.length))
noncomputable def tcS (n : Nat) (r : Ru) : List Int := upTo (fun x => dB ((x : Int) ∈ usL r.1 n ∨ ∃ m, m < r.2.2.length ∧ (x : Int) ∈ usL (r.2.2.getD m []) n)) n
theorem tcL_mem {n : Nat} {r : Ru} {x : Int} : x ∈ tcL n r ↔ (x ∈ usL r.1 n ∨ ∃ m, m < r.2.2.length ∧ x ∈ usL (r.2.2.getD m []) n) := by
 rw [tcL, cptZ_mem, srtZ_mem, tcA, List.take_length, List.mem_append, List.mem_flatten]
 refine or_congr Iff.rfl ⟨fun ⟨l, h1, h2⟩ => ?_, fun ⟨m, h1, h2⟩ => ?_⟩
 ·obtain ⟨t, h3, rfl⟩ := List.mem_map.1 h1
  obtain ⟨m, hm, rfl⟩ := List.getElem_of_mem h3
  exact ⟨m, hm, by rw [getD_lt hm]; exact h2⟩
 ·exact ⟨_, List.mem_map.2 ⟨_, getD_mem h1, rfl⟩, h2⟩
theorem tcS_mem {n : Nat} {r : Ru} {x : Int} : x ∈ tcS n r ↔ x ∈ tcL n r := by
 rw [tcL_mem, tcS, upTo_mem]
 constructor
 ·rintro ⟨k, h1, rfl, h2⟩; exact dB_iff.1 h2
 ·intro h
  have hb : 0 ≤ x ∧ x < n := by
   rcases h with h | ⟨m, _, h⟩
   ·obtain ⟨k, h1, rfl, _⟩ := upTo_mem.1 h; omega
   ·obtain ⟨k, h1, rfl, _⟩ := upTo_mem.1 h; omega
  have e : ((x.toNat : Nat) : Int) = x := by omega
  exact ⟨x.toNat, by omega, e.symm, dB_t (by rw [e]; exact h)⟩
theorem tcL_len {n : Nat} {r : Ru} (hn : n ≤ 5) (hr : r.2.2.length ≤ 5) : (tcL n r).length ≤ 30 := by
 have h1 := @cptZ_len (srtZ (tcA n r r.2.2.length))
 rw [srtZ_len] at h1
 have h2 := tcA_len (n := n) (r := r) (Nat.le_refl _)
 have h3 : n * (r.2.2.length + 1) ≤ 5 * 6 := Nat.mul_le_mul hn (by omega)
 unfold tcL
 omega
theorem rl_terms {s : Sy} (h : valid s) {i : Nat} (hi : i < s.2.length) : (rl s i).2.1.length = (rl s i).2.2.length ∧ (rl s i).2.2.length ≤ 5 ∧ kf (rl s i).1 s.1.length ≠ 0 ∧ ∀ m, m < (rl s i).2.2.length → kf ((rl s i).2.2.getD m []) s.1.length ≠ 0 := by
 have hr := rl_ok h hi
 have h5 := h.1
 have h1 := rOk_few hr.2.2
 refine ⟨hr.2.1, ?_, by rw [hr.1]; omega, fun m hm => ?_⟩
 ·rw [← hr.2.1]; omega
 ·rw [(hr.2.2 m (by rw [hr.2.1]; exact hm)).2.2]; omega
theorem C_impl_touchedBy (s : Sy) (i : Nat) (h : valid s) (hi : i < s.2.length) (Q : List AV → Prop) : mc.C f_impl_touchedBy [⟨L V3, s.1⟩, ⟨L TR, s.2⟩, ⟨I, (i : Int)⟩] Q = Q [⟨L I, tcL s.1.length (rl s i)⟩] := by
 refine Mc.Ends.c (mc.ends F_impl_touchedBy ?_)
 obtain ⟨h1, h2, h3, h4⟩ := rl_terms h hi
 have h5 := h.1
 obtain ⟨r, hr⟩ : ∃ r, rl s i = r := ⟨_, rfl⟩
 have hr' : s.2.getD i ([], [], []) = r := hr
 rw [hr] at h1 h2 h3 h4 ⊢
 have hlen := tcL_len (n := s.1.length) (r := r) h5.2 h2
 simp (contextual := true) (maxSteps := 1000000) (disch := omega) only [↓Sd, ↓So, ↓Sk, ↓den, ↓denA, Sa, Sb, Sc, Se, O1.d, O2.d, O3.d, cmI, arI, envOf, putN, ↓reduceIte, Nat.reduceLT, Nat.reduceSub, Nat.reduceAdd, Int.reduceAdd, Int.reduceEq, Int.reduceLT, Int.reduceLE, arr_pos, arr_neg, tr_impl_touchedBy, hr', C_impl_usedBy r.1 s.1.length (tms_ok h3)]
 refine mc.lp_for (List Int) (fun k o => [⟨L (L T4), r.2.2⟩, ⟨I, (r.2.2.length : Int)⟩, ⟨I, (k : Int)⟩, ⟨L V3, s.1⟩, ⟨L TR, s.2⟩, ⟨L I, o⟩]) (fun k o => o = tcA s.1.length r k) r.2.2.length 0 _ _ rfl (Nat.zero_le _) (by simp [tcA]) ?_ ?_
 ·rintro k o hk rfl
  have h6 := tcA_len (n := s.1.length) (r := r) (Nat.le_of_lt hk)
  have h7 : s.1.length * (k + 1) ≤ 5 * 6 := Nat.mul_le_mul h5.2 (by omega)
  have h8 := @usL_len (r.2.2.getD k []) s.1.length
  simp (contextual := true) (maxSteps := 1000000) (disch := omega) only [↓Sd, ↓So, ↓Sk, ↓den, ↓denA, Sa, Sb, Sc, Se, O1.d, O2.d, O3.d, cmI, arI, envOf, putN, ↓reduceIte, Nat.reduceLT, Nat.reduceSub, Nat.reduceAdd, Int.reduceAdd, Int.reduceEq, Int.reduceLT, Int.reduceLE, arr_pos, arr_neg, C_impl_usedBy (r.2.2.getD k []) s.1.length (tms_ok (h4 k hk))]
  exact (tcA_next hk).symm
 ·rintro o rfl
  have h6 := tcA_len (n := s.1.length) (r := r) (Nat.le_refl _)
  have h7 : s.1.length * (r.2.2.length + 1) ≤ 5 * 6 := Nat.mul_le_mul h5.2 (by omega)
  have e0 : ∀ l, hndZ 0 l = srtZ l := fun _ => rfl
  have e1 : hndZ 1 (srtZ (tcA s.1.length r r.2.2.length)) = tcL s.1.length r := rfl
  have e2 : (srtZ (tcA s.1.length r r.2.2.length)).length = (tcA s.1.length r r.2.2.length).length := srtZ_len
  simp (contextual := true) (maxSteps := 1000000) (disch := omega) only [↓Sd, ↓So, ↓Sk, ↓den, ↓denA, Sa, Sb, Sc, Se, O1.d, O2.d, O3.d, cmI, arI, envOf, putN, ↓reduceIte, Nat.reduceLT, Nat.reduceSub, Nat.reduceAdd, Int.reduceAdd, Int.reduceEq, Int.reduceLT, Int.reduceLE, arr_pos, arr_neg, e0, e1, e2, C_impl_clone_int (tcL s.1.length r) (by omega)]
theorem C_impl_meets (a b : List Int) (ha : a.length ≤ 1048576) (hb : b.length ≤ 1048576) (Q : List AV → Prop) : mc.C f_impl_meets [⟨L I, a⟩, ⟨L I, b⟩] Q = Q [⟨B, dB (∃ x ∈ a, x ∈ b)⟩] := by
 refine Mc.Ends.c (mc.ends F_impl_meets ?_)
 generalize hK : dB (∃ x ∈ a, x ∈ b) = K
 simp (contextual := true) (maxSteps := 1000000) (disch := omega) only [↓Sd, ↓So, ↓Sk, ↓den, ↓denA, Sa, Sb, Sc, Se, O1.d, O2.d, O3.d, cmI, arI, envOf, putN, ↓reduceIte, Nat.reduceLT, Nat.reduceSub, Nat.reduceAdd, Int.reduceAdd, Int.reduceEq, Int.reduceLT, Int.reduceLE, arr_pos, arr_neg, tr_impl_meets]
 refine lp_all (fun i => [⟨L I, a⟩, ⟨I, (a.length : Int)⟩, ⟨I, (i : Int)⟩, ⟨L I, b⟩]) (fun i => ¬ a.getD i 0 ∈ b) a.length _ rfl ?_ ?_
 ·intro i hi
  simp (contextual := true) (maxSteps := 1000000) (disch := omega) only [↓Sd, ↓So, ↓Sk, ↓den, ↓denA, Sa, Sb, Sc, Se, O1.d, O2.d, O3.d, cmI, arI, envOf, putN, ↓reduceIte, Nat.reduceLT, Nat.reduceSub, Nat.reduceAdd, Int.reduceAdd, Int.reduceEq, Int.reduceLT, Int.reduceLE, arr_pos, arr_neg, C_slices_Contains_int b (a.getD i 0) hb]
  refine ⟨fun h => ?_, fun h => fun g => h (dB_t g)⟩
  rw [← hK, dB_t ⟨_, getD_mem hi, dB_iff.1 h⟩]
  simp
 ·intro h
  simp (contextual := true) (maxSteps := 1000000) (disch := omega) only [↓Sd, ↓So, ↓Sk, ↓den, ↓denA, Sa, Sb, Sc, Se, O1.d, O2.d, O3.d, cmI, arI, envOf, putN, ↓reduceIte, Nat.reduceLT, Nat.reduceSub, Nat.reduceAdd, Int.reduceAdd, Int.reduceEq, Int.reduceLT, Int.reduceLE, arr_pos, arr_neg, ]
  rw [← hK, dB_f]
  ·rfl
  ·rintro ⟨x, h1, h2⟩
   obtain ⟨i, hi, rfl⟩ := List.getElem_of_mem h1
   exact h i hi (by rw [getD_lt hi]; exact h2)
theorem C_spec_l26Meet (a b : List Int) (ha : a.length ≤ 1048576) (hb : b.length ≤ 1048576) (Q : List AV → Prop) : mc.C f_spec_l26Meet [⟨L I, a⟩, ⟨L I, b⟩] Q = Q [⟨B, dB (∃ x ∈ a, x ∈ b)⟩] := by
 refine Mc.Ends.c (mc.ends F_spec_l26Meet ?_)
 generalize hK : dB (∃ x ∈ a, x ∈ b) = K
 simp (contextual := true) (maxSteps := 1000000) (disch := omega) only [↓Sd, ↓So, ↓Sk, ↓den, ↓denA, Sa, Sb, Sc, Se, O1.d, O2.d, O3.d, cmI, arI, envOf, putN, ↓reduceIte, Nat.reduceLT, Nat.reduceSub, Nat.reduceAdd, Int.reduceAdd, Int.reduceEq, Int.reduceLT, Int.reduceLE, arr_pos, arr_neg, tr_spec_l26Meet]
 refine lp_all (fun i => [⟨L I, a⟩, ⟨L I, b⟩, ⟨I, (i : Int)⟩]) (fun i => ¬ a.getD i 0 ∈ b) a.length _ rfl ?_ ?_
 ·intro i hi
  simp (contextual := true) (maxSteps := 1000000) (disch := omega) only [↓Sd, ↓So, ↓Sk, ↓den, ↓denA, Sa, Sb, Sc, Se, O1.d, O2.d, O3.d, cmI, arI, envOf, putN, ↓reduceIte, Nat.reduceLT, Nat.reduceSub, Nat.reduceAdd, Int.reduceAdd, Int.reduceEq, Int.reduceLT, Int.reduceLE, arr_pos, arr_neg, C_spec_l2Has b (a.getD i 0) hb]
  refine ⟨fun h => ?_, fun h => fun g => h (dB_t g)⟩
  rw [← hK, dB_t ⟨_, getD_mem hi, dB_iff.1 h⟩]
 ·intro h
  simp (contextual := true) (maxSteps := 1000000) (disch := omega) only [↓Sd, ↓So, ↓Sk, ↓den, ↓denA, Sa, Sb, Sc, Se, O1.d, O2.d, O3.d, cmI, arI, envOf, putN, ↓reduceIte, Nat.reduceLT, Nat.reduceSub, Nat.reduceAdd, Int.reduceAdd, Int.reduceEq, Int.reduceLT, Int.reduceLE, arr_pos, arr_neg, ]
  rw [← hK, dB_f]
  rintro ⟨x, h1, h2⟩
  obtain ⟨i, hi, rfl⟩ := List.getElem_of_mem h1
  exact h i hi (by rw [getD_lt hi]; exact h2)
def Mt2 (a b : List Int) : Prop := ∃ x ∈ a, x ∈ b
theorem Mt2.congr {a b c : List Int} (h : ∀ x, x ∈ b ↔ x ∈ c) : Mt2 a b ↔ Mt2 a c := ⟨fun ⟨x, h1, h2⟩ => ⟨x, h1, (h x).1 h2⟩, fun ⟨x, h1, h2⟩ => ⟨x, h1, (h x).2 h2⟩⟩
def Apr (s : Sy) (i j : Nat) : Prop := ¬ Mt2 (rl s i).2.1 (rl s j).2.1 ∧ ¬ Mt2 (rl s i).2.1 (tcL s.1.length (rl s j)) ∧ ¬ Mt2 (rl s j).2.1 (tcL s.1.length (rl s i))
noncomputable def wkB (s : Sy) (i k : Nat) : Bool := dB (k ≠ i ∧ Mt2 (rl s k).2.1 (tcL s.1.length (rl s i)))
noncomputable def wkL (s : Sy) (i : Nat) : List Int := upTo (wkB s i) s.2.length
theorem wkL_len {s : Sy} {i : Nat} (h : valid s) : (wkL s i).length ≤ 8 := by have h1 := h.2.1; have := @upTo_len (wkB s i) s.2.length; unfold wkL; omega
theorem C_impl_rulesApart (s : Sy) (i j : Nat) (h : valid s) (hi : i < s.2.length) (hj : j < s.2.length) (Q : List AV → Prop) : mc.C f_impl_rulesApart [⟨L V3, s.1⟩, ⟨L TR, s.2⟩, ⟨I, (i : Int)⟩, ⟨I, (j : Int)⟩] Q = Q [⟨B, dB (Apr s i j)⟩] := by
 refine Mc.Ends.c (mc.ends F_impl_rulesApart ?_)
 obtain ⟨a1, a2, -, -⟩ := rl_terms h hi
 obtain ⟨b1, b2, -, -⟩ := rl_terms h hj
 have h5 := h.1
 have c1 := tcL_len (n := s.1.length) (r := rl s i) h5.2 a2
 have c2 := tcL_len (n := s.1.length) (r := rl s j) h5.2 b2
 have ei : s.2.getD i ([], [], []) = rl s i := rfl
 have ej : s.2.getD j ([], [], []) = rl s j := rfl
 generalize hK : dB (Apr s i j) = K
 simp (contextual := true) (maxSteps := 1000000) (disch := omega) only [↓Sd, ↓So, ↓Sk, ↓den, ↓denA, Sa, Sb, Sc, Se, O1.d, O2.d, O3.d, cmI, arI, envOf, putN, ↓reduceIte, Nat.reduceLT, Nat.reduceSub, Nat.reduceAdd, Int.reduceAdd, Int.reduceEq, Int.reduceLT, Int.reduceLE, arr_pos, arr_neg, tr_impl_rulesApart, ei, ej, C_impl_meets (rl s i).2.1 (rl s j).2.1 (by omega) (by omega), C_impl_touchedBy s j h hj, C_impl_touchedBy s i h hi, C_impl_meets (rl s i).2.1 (tcL s.1.length (rl s j)) (by omega) (by omega), C_impl_meets (rl s j).2.1 (tcL s.1.length (rl s i)) (by omega) (by omega)]
 refine ⟨fun g1 => ⟨fun g2 => ?_, fun g2 => ?_⟩, fun g1 => ?_⟩
 ·have n1 : ¬ Mt2 (rl s i).2.1 (rl s j).2.1 := fun g => by
   have g' : ∃ x, x ∈ (rl s i).2.1 ∧ x ∈ (rl s j).2.1 := g
   rw [dB_t g'] at g1; cases g1
  have n2 : ¬ Mt2 (rl s i).2.1 (tcL s.1.length (rl s j)) := fun g => by
   have g' : ∃ x, x ∈ (rl s i).2.1 ∧ x ∈ tcL s.1.length (rl s j) := g
   rw [dB_t g'] at g2; cases g2
  by_cases e : Mt2 (rl s j).2.1 (tcL s.1.length (rl s i))
  ·rw [← hK, dB_f (fun g : Apr s i j => g.2.2 e), dB_t (show ∃ x, x ∈ (rl s j).2.1 ∧ x ∈ tcL s.1.length (rl s i) from e)]; rfl
  ·rw [← hK, dB_t (show Apr s i j from ⟨n1, n2, e⟩), dB_f (show ¬ ∃ x, x ∈ (rl s j).2.1 ∧ x ∈ tcL s.1.length (rl s i) from e)]; rfl
 ·rw [← hK, dB_f fun g => g2 (dB_f g.2.1)]
 ·rw [← hK, dB_f fun g => g1 (dB_f g.1)]
theorem C_impl_wakersOf (s : Sy) (i : Nat) (h : valid s) (hi : i < s.2.length) (Q : List AV → Prop) : mc.C f_impl_wakersOf [⟨L V3, s.1⟩, ⟨L TR, s.2⟩, ⟨I, (i : Int)⟩] Q = Q [⟨L I, wkL s i⟩] := by
 refine Mc.Ends.c (mc.ends F_impl_wakersOf ?_)
 obtain ⟨a1, a2, -, -⟩ := rl_terms h hi
 have h5 := h.1
 have h8 := h.2.1
 have c1 := tcL_len (n := s.1.length) (r := rl s i) h5.2 a2
 have hwl := @wkL_len s i h
 simp (contextual := true) (maxSteps := 1000000) (disch := omega) only [↓Sd, ↓So, ↓Sk, ↓den, ↓denA, Sa, Sb, Sc, Se, O1.d, O2.d, O3.d, cmI, arI, envOf, putN, ↓reduceIte, Nat.reduceLT, Nat.reduceSub, Nat.reduceAdd, Int.reduceAdd, Int.reduceEq, Int.reduceLT, Int.reduceLE, arr_pos, arr_neg, tr_impl_wakersOf, C_impl_touchedBy s i h hi]
 refine mc.lp_for (List Int) (fun k o => [⟨I, (i : Int)⟩, ⟨L TR, s.2⟩, ⟨I, (s.2.length : Int)⟩, ⟨I, (k : Int)⟩, ⟨L I, tcL s.1.length (rl s i)⟩, ⟨L I, o⟩]) (fun k o => o = upTo (wkB s i) k) s.2.length 0 [] _ rfl (Nat.zero_le _) rfl ?_ ?_
 ·rintro k o hk rfl
  obtain ⟨b1, b2, -, -⟩ := rl_terms h hk
  have ek : s.2.getD k ([], [], []) = rl s k := rfl
  have hul := @upTo_len (wkB s i) k
  simp (contextual := true) (maxSteps := 1000000) (disch := omega) only [↓Sd, ↓So, ↓Sk, ↓den, ↓denA, Sa, Sb, Sc, Se, O1.d, O2.d, O3.d, cmI, arI, envOf, putN, ↓reduceIte, Nat.reduceLT, Nat.reduceSub, Nat.reduceAdd, Int.reduceAdd, Int.reduceEq, Int.reduceLT, Int.reduceLE, arr_pos, arr_neg, ↓wpJoin, ek, C_impl_meets (rl s k).2.1 (tcL s.1.length (rl s i)) (by omega) (by omega)]
  refine ⟨fun g1 => ⟨fun g2 => (upTo_s (p := wkB s i) (dB_t ⟨by omega, dB_iff.1 g2⟩)).symm, fun g2 => (upTo_n (p := wkB s i) fun g => g2 (dB_t (dB_iff.1 g).2)).symm⟩, fun g1 => (upTo_n (p := wkB s i) fun g => (dB_iff.1 g).1 (by omega)).symm⟩
 ·rintro o rfl
  have e : upTo (wkB s i) s.2.length = wkL s i := rfl
  rw [e]
  simp (contextual := true) (maxSteps := 1000000) (disch := omega) only [↓Sd, ↓So, ↓Sk, ↓den, ↓denA, Sa, Sb, Sc, Se, O1.d, O2.d, O3.d, cmI, arI, envOf, putN, ↓reduceIte, Nat.reduceLT, Nat.reduceSub, Nat.reduceAdd, Int.reduceAdd, Int.reduceEq, Int.reduceLT, Int.reduceLE, arr_pos, arr_neg, C_impl_clone_int (wkL s i) (by omega)]
theorem C_spec_TouchedBy (s : Sy) (i : Nat) (hs : FewSy s) (h : valid s) (hi : i < s.2.length) (Q : List AV → Prop) : mc.C f_spec_TouchedBy [⟨L V3, s.1⟩, ⟨L TR, s.2⟩, ⟨I, (i : Int)⟩] Q = Q [⟨L I, (rl s i).2.1⟩, ⟨L I, tcS s.1.length (rl s i)⟩] := by
 refine Mc.Ends.c (mc.ends F_spec_TouchedBy ?_)
 obtain ⟨h1, h2, h3, h4⟩ := rl_terms h hi
 have h5 := h.1
 obtain ⟨r, hr⟩ : ∃ r, rl s i = r := ⟨_, rfl⟩
 have hr' : s.2.getD i ([], [], []) = r := hr
 have hrm : r ∈ s.2 := by rw [← hr']; exact getD_mem hi
 have hru : FewRu r := hs.2.2 r hrm
 have h8 := h.2.1
 rw [hr] at h1 h2 h3 h4 ⊢
 simp (contextual := true) (maxSteps := 1000000) (disch := omega) only [↓Sd, ↓So, ↓Sk, ↓den, ↓denA, Sa, Sb, Sc, Se, O1.d, O2.d, O3.d, cmI, arI, envOf, putN, ↓reduceIte, Nat.reduceLT, Nat.reduceSub, Nat.reduceAdd, Int.reduceAdd, Int.reduceEq, Int.reduceLT, Int.reduceLE, arr_pos, arr_neg, tr_spec_TouchedBy, C_spec_SystemValid s hs, decide_eq_true h, C_spec_l1In, decide_eq_true (show 0 ≤ (i : Int) ∧ (i : Int) ≤ (s.2.length : Int) - 1 by omega), hr']
 refine mc.lp_for (List Int) (fun k o => [⟨I, (k : Int)⟩, ⟨L V3, s.1⟩, ⟨L TR, s.2⟩, ⟨L T4, r.1⟩, ⟨L I, r.2.1⟩, ⟨L (L T4), r.2.2⟩, ⟨L I, o⟩]) (fun k o => o = r.2.1.take k) r.2.1.length 0 [] _ rfl (Nat.zero_le _) rfl ?_ ?_
 ·rintro k o hk rfl
  have : (r.2.1.take k).length ≤ 5 := by rw [List.length_take]; omega
  simp (contextual := true) (maxSteps := 1000000) (disch := omega) only [↓Sd, ↓So, ↓Sk, ↓den, ↓denA, Sa, Sb, Sc, Se, O1.d, O2.d, O3.d, cmI, arI, envOf, putN, ↓reduceIte, Nat.reduceLT, Nat.reduceSub, Nat.reduceAdd, Int.reduceAdd, Int.reduceEq, Int.reduceLT, Int.reduceLE, arr_pos, arr_neg, ]
  rw [List.take_succ_eq_append_getElem hk, getD_lt hk]
 rintro o rfl
 rw [List.take_length]
 simp (contextual := true) (maxSteps := 1000000) (disch := omega) only [↓Sd, ↓So, ↓Sk, ↓den, ↓denA, Sa, Sb, Sc, Se, O1.d, O2.d, O3.d, cmI, arI, envOf, putN, ↓reduceIte, Nat.reduceLT, Nat.reduceSub, Nat.reduceAdd, Int.reduceAdd, Int.reduceEq, Int.reduceLT, Int.reduceLE, arr_pos, arr_neg, ]
 refine mc.lp_for (List Int) (fun k o => [⟨I, (k : Int)⟩, ⟨L V3, s.1⟩, ⟨L TR, s.2⟩, ⟨L T4, r.1⟩, ⟨L I, r.2.1⟩, ⟨L (L T4), r.2.2⟩, ⟨L I, r.2.1⟩, ⟨L I, o⟩]) (fun k o => o = upTo (fun x => dB ((x : Int) ∈ usL r.1 s.1.length ∨ ∃ m, m < r.2.2.length ∧ (x : Int) ∈ usL (r.2.2.getD m []) s.1.length)) k) s.1.length 0 [] _ rfl (Nat.zero_le _) rfl ?_ ?_
 ·rintro x o hx rfl
  have h6 := @upTo_len (fun x => dB ((x : Int) ∈ usL r.1 s.1.length ∨ ∃ m, m < r.2.2.length ∧ (x : Int) ∈ usL (r.2.2.getD m []) s.1.length)) x
  obtain ⟨U, hU⟩ : ∃ U, upTo (fun x => dB ((x : Int) ∈ usL r.1 s.1.length ∨ ∃ m, m < r.2.2.length ∧ (x : Int) ∈ usL (r.2.2.getD m []) s.1.length)) x = U := ⟨_, rfl⟩
  have h7 := @usL_len r.1 s.1.length
  rw [hU] at h6 ⊢
  simp (contextual := true) (maxSteps := 1000000) (disch := omega) only [↓Sd, ↓So, ↓Sk, ↓den, ↓denA, Sa, Sb, Sc, Se, O1.d, O2.d, O3.d, cmI, arI, envOf, putN, ↓reduceIte, Nat.reduceLT, Nat.reduceSub, Nat.reduceAdd, Int.reduceAdd, Int.reduceEq, Int.reduceLT, Int.reduceLE, arr_pos, arr_neg, ↓wpJoin, C_spec_UsedBy r.1 s.1.length hru.1 h3, C_spec_l2Has (usL r.1 s.1.length) x (by omega)]
  refine mc.lp_for Bool (fun m b => [⟨I, (x : Int)⟩, ⟨B, b⟩, ⟨I, (m : Int)⟩, ⟨L V3, s.1⟩, ⟨L TR, s.2⟩, ⟨L T4, r.1⟩, ⟨L I, r.2.1⟩, ⟨L (L T4), r.2.2⟩, ⟨L I, r.2.1⟩, ⟨L I, U⟩]) (fun m b => b = dB ((x : Int) ∈ usL r.1 s.1.length ∨ ∃ a, a < m ∧ (x : Int) ∈ usL (r.2.2.getD a []) s.1.length)) r.2.2.length 0 _ _ rfl (Nat.zero_le _) (dB_congr ⟨.inl, fun h => h.elim id fun ⟨a, h, _⟩ => absurd h (Nat.not_lt_zero _)⟩) ?_ ?_
  ·rintro m b hm rfl
   have h9 := @usL_len (r.2.2.getD m []) s.1.length
   have hfm : Few (r.2.2.getD m []) := hru.2.2.2 _ (getD_mem hm)
   simp (contextual := true) (maxSteps := 1000000) (disch := omega) only [↓Sd, ↓So, ↓Sk, ↓den, ↓denA, Sa, Sb, Sc, Se, O1.d, O2.d, O3.d, cmI, arI, envOf, putN, ↓reduceIte, Nat.reduceLT, Nat.reduceSub, Nat.reduceAdd, Int.reduceAdd, Int.reduceEq, Int.reduceLT, Int.reduceLE, arr_pos, arr_neg, ↓wpJoin, C_spec_UsedBy (r.2.2.getD m []) s.1.length hfm (h4 m hm), C_spec_l2Has (usL (r.2.2.getD m []) s.1.length) x (by omega)]
   refine ⟨fun g => ?_, fun g => dB_congr ⟨fun g2 => .inr ⟨m, by omega, g2⟩, fun g2 => ?_⟩⟩
   ·rw [dB_t]
    rcases dB_iff.1 g with g1 | ⟨a, g1, g2⟩
    ·exact .inl g1
    ·exact .inr ⟨a, by omega, g2⟩
   ·rcases g2 with g1 | ⟨a, g1, g2⟩
    ·exact absurd (dB_t (.inl g1)) g
    ·by_cases e : a = m
     ·rw [← e]; exact g2
     ·exact absurd (dB_t (.inr ⟨a, by omega, g2⟩)) g
  ·rintro b rfl
   rw [← hU]
   have hUl : (upTo (fun x => dB ((x : Int) ∈ usL r.1 s.1.length ∨ ∃ m, m < r.2.2.length ∧ (x : Int) ∈ usL (r.2.2.getD m []) s.1.length)) x).length ≤ x := upTo_len
   obtain ⟨P, hP⟩ : ∃ P : Nat → Bool, P = fun x : Nat => dB ((x : Int) ∈ usL r.1 s.1.length ∨ ∃ m, m < r.2.2.length ∧ (x : Int) ∈ usL (r.2.2.getD m []) s.1.length) := ⟨_, rfl⟩
   have hPx : dB ((x : Int) ∈ usL r.1 s.1.length ∨ ∃ m, m < r.2.2.length ∧ (x : Int) ∈ usL (r.2.2.getD m []) s.1.length) = P x := by rw [hP]
   rw [hPx]
   rw [← hP] at hUl ⊢
   simp (contextual := true) (maxSteps := 1000000) (disch := omega) only [↓Sd, ↓So, ↓Sk, ↓den, ↓denA, Sa, Sb, Sc, Se, O1.d, O2.d, O3.d, cmI, arI, envOf, putN, ↓reduceIte, Nat.reduceLT, Nat.reduceSub, Nat.reduceAdd, Int.reduceAdd, Int.reduceEq, Int.reduceLT, Int.reduceLE, arr_pos, arr_neg, ]
   exact ⟨fun g => (upTo_s (p := P) g).symm, fun g => (upTo_n (p := P) g).symm⟩
 ·rintro o rfl
  simp (contextual := true) (maxSteps := 1000000) (disch := omega) only [↓Sd, ↓So, ↓Sk, ↓den, ↓denA, Sa, Sb, Sc, Se, O1.d, O2.d, O3.d, cmI, arI, envOf, putN, ↓reduceIte, Nat.reduceLT, Nat.reduceSub, Nat.reduceAdd, Int.reduceAdd, Int.reduceEq, Int.reduceLT, Int.reduceLE, arr_pos, arr_neg, ]
  rfl
theorem C_spec_l26Apart (s : Sy) (i j : Nat) (hs : FewSy s) (h : valid s) (hi : i < s.2.length) (hj : j < s.2.length) (Q : List AV → Prop) : mc.C f_spec_l26Apart [⟨L V3, s.1⟩, ⟨L TR, s.2⟩, ⟨I, (i : Int)⟩, ⟨I, (j : Int)⟩] Q = Q [⟨B, dB (Apr s i j)⟩] := by
 refine Mc.Ends.c (mc.ends F_spec_l26Apart ?_)
 obtain ⟨a1, a2, -, -⟩ := rl_terms h hi
 obtain ⟨b1, b2, -, -⟩ := rl_terms h hj
 have h5 := h.1
 have c1 : (tcS s.1.length (rl s i)).length ≤ s.1.length := upTo_len
 have c2 : (tcS s.1.length (rl s j)).length ≤ s.1.length := upTo_len
 have m1 : Mt2 (rl s i).2.1 (tcS s.1.length (rl s j)) ↔ Mt2 (rl s i).2.1 (tcL s.1.length (rl s j)) := Mt2.congr fun x => tcS_mem
 have m2 : Mt2 (rl s j).2.1 (tcS s.1.length (rl s i)) ↔ Mt2 (rl s j).2.1 (tcL s.1.length (rl s i)) := Mt2.congr fun x => tcS_mem
 generalize hK : dB (Apr s i j) = K
 simp (contextual := true) (maxSteps := 1000000) (disch := omega) only [↓Sd, ↓So, ↓Sk, ↓den, ↓denA, Sa, Sb, Sc, Se, O1.d, O2.d, O3.d, cmI, arI, envOf, putN, ↓reduceIte, Nat.reduceLT, Nat.reduceSub, Nat.reduceAdd, Int.reduceAdd, Int.reduceEq, Int.reduceLT, Int.reduceLE, arr_pos, arr_neg, tr_spec_l26Apart, C_spec_TouchedBy s i hs h hi, C_spec_TouchedBy s j hs h hj, C_spec_l26Meet (rl s i).2.1 (rl s j).2.1 (by omega) (by omega), C_spec_l26Meet (rl s i).2.1 (tcS s.1.length (rl s j)) (by omega) (by omega), C_spec_l26Meet (rl s j).2.1 (tcS s.1.length (rl s i)) (by omega) (by omega)]
 refine ⟨fun g1 => ⟨fun g2 => ?_, fun g2 => ?_⟩, fun g1 => ?_⟩
 ·have n1 : ¬ Mt2 (rl s i).2.1 (rl s j).2.1 := fun g => by
   have g' : ∃ x, x ∈ (rl s i).2.1 ∧ x ∈ (rl s j).2.1 := g
   rw [dB_t g'] at g1; cases g1
  have n2 : ¬ Mt2 (rl s i).2.1 (tcL s.1.length (rl s j)) := fun g => by
   have g' : ∃ x, x ∈ (rl s i).2.1 ∧ x ∈ tcS s.1.length (rl s j) := m1.2 g
   rw [dB_t g'] at g2; cases g2
  by_cases e : Mt2 (rl s j).2.1 (tcL s.1.length (rl s i))
  ·rw [← hK, dB_f (fun g : Apr s i j => g.2.2 e), dB_t (show ∃ x, x ∈ (rl s j).2.1 ∧ x ∈ tcS s.1.length (rl s i) from m2.2 e)]; rfl
  ·rw [← hK, dB_t (show Apr s i j from ⟨n1, n2, e⟩), dB_f (show ¬ ∃ x, x ∈ (rl s j).2.1 ∧ x ∈ tcS s.1.length (rl s i) from fun g => e (m2.1 g))]; rfl
 ·rw [← hK, dB_f fun g => g2 (dB_f fun g' => g.2.1 (m1.1 g'))]
 ·rw [← hK, dB_f fun g => g1 (dB_f g.1)]
theorem C_spec_l26Wakers (s : Sy) (i : Nat) (hs : FewSy s) (h : valid s) (hi : i < s.2.length) (Q : List AV → Prop) : mc.C f_spec_l26Wakers [⟨L V3, s.1⟩, ⟨L TR, s.2⟩, ⟨I, (i : Int)⟩] Q = Q [⟨L I, wkL s i⟩] := by
 refine Mc.Ends.c (mc.ends F_spec_l26Wakers ?_)
 have h5 := h.1
 have h8 := h.2.1
 have c1 : (tcS s.1.length (rl s i)).length ≤ s.1.length := upTo_len
 simp (contextual := true) (maxSteps := 1000000) (disch := omega) only [↓Sd, ↓So, ↓Sk, ↓den, ↓denA, Sa, Sb, Sc, Se, O1.d, O2.d, O3.d, cmI, arI, envOf, putN, ↓reduceIte, Nat.reduceLT, Nat.reduceSub, Nat.reduceAdd, Int.reduceAdd, Int.reduceEq, Int.reduceLT, Int.reduceLE, arr_pos, arr_neg, tr_spec_l26Wakers, C_spec_TouchedBy s i hs h hi]
 refine mc.lp_for (List Int) (fun k o => [⟨I, (i : Int)⟩, ⟨I, (k : Int)⟩, ⟨L V3, s.1⟩, ⟨L TR, s.2⟩, ⟨L I, tcS s.1.length (rl s i)⟩, ⟨L I, o⟩]) (fun k o => o = upTo (wkB s i) k) s.2.length 0 [] _ rfl (Nat.zero_le _) rfl ?_ ?_
 ·rintro k o hk rfl
  obtain ⟨b1, b2, -, -⟩ := rl_terms h hk
  have ek : s.2.getD k ([], [], []) = rl s k := rfl
  have hul := @upTo_len (wkB s i) k
  have m1 : Mt2 (rl s k).2.1 (tcS s.1.length (rl s i)) ↔ Mt2 (rl s k).2.1 (tcL s.1.length (rl s i)) := Mt2.congr fun x => tcS_mem
  simp (contextual := true) (maxSteps := 1000000) (disch := omega) only [↓Sd, ↓So, ↓Sk, ↓den, ↓denA, Sa, Sb, Sc, Se, O1.d, O2.d, O3.d, cmI, arI, envOf, putN, ↓reduceIte, Nat.reduceLT, Nat.reduceSub, Nat.reduceAdd, Int.reduceAdd, Int.reduceEq, Int.reduceLT, Int.reduceLE, arr_pos, arr_neg, ↓wpJoin, ek, C_spec_l26Meet (rl s k).2.1 (tcS s.1.length (rl s i)) (by omega) (by omega)]
  refine ⟨fun g1 => ⟨fun g2 => (upTo_s (p := wkB s i) (dB_t ⟨by omega, m1.1 (dB_iff.1 g2)⟩)).symm, fun g2 => (upTo_n (p := wkB s i) fun g => g2 (dB_t (m1.2 (dB_iff.1 g).2))).symm⟩, fun g1 => (upTo_n (p := wkB s i) fun g => (dB_iff.1 g).1 (by omega)).symm⟩
 ·rintro o rfl
  simp (contextual := true) (maxSteps := 1000000) (disch := omega) only [↓Sd, ↓So, ↓Sk, ↓den, ↓denA, Sa, Sb, Sc, Se, O1.d, O2.d, O3.d, cmI, arI, envOf, putN, ↓reduceIte, Nat.reduceLT, Nat.reduceSub, Nat.reduceAdd, Int.reduceAdd, Int.reduceEq, Int.reduceLT, Int.reduceLE, arr_pos, arr_neg, ]
  rfl
inductive Rc (E : Nat → Nat → Bool) (n r : Nat) : Nat → Prop
 | base : Rc E n r r
 | step {a m : Nat} : Rc E n r a → m < n → E a m = true → Rc E n r m
theorem Rc.to {E E' : Nat → Nat → Bool} {n r : Nat} (h : ∀ a m, m ≠ a → E a m = E' a m) {k : Nat} (hk : Rc E n r k) : Rc E' n r k := by
 induction hk with
 | base => exact .base
 | @step a m _ h1 h2 ih =>
  by_cases e : m = a
  ·rw [e]; exact ih
  ·exact .step ih h1 (by rw [← h a m e]; exact h2)
theorem Rc.lt {E : Nat → Nat → Bool} {n r : Nat} (hr : r < n) {k : Nat} (hk : Rc E n r k) : k < n := by
 cases hk with
 | base => exact hr
 | step _ h _ => exact h
theorem rc_of_closed {E : Nat → Nat → Bool} {n r : Nat} {p : Nat → Bool} (hr : r < n) (h1 : p r = true) (h3 : ∀ k, k < n → p k = true → Rc E n r k) (h4 : ∀ a, a < n → p a = true → ∀ m, m < n → E a m = true → p m = true) : ∀ k, k < n → p k = dB (Rc E n r k) := by
 intro k hk
 have key : ∀ k, Rc E n r k → p k = true := by
  intro k h
  induction h with
  | base => exact h1
  | @step a m ha hm he ih => exact h4 a (ha.lt hr) ih m hm he
 cases hp : p k with
 | false =>
  rw [dB_f]
  intro h
  rw [key k h] at hp; cases hp
 | true => rw [dB_t (h3 k hk hp)]
noncomputable def eI' (ab : Nat → Bool) (A : Nat → Nat → Bool) (W : Nat → List Int) (k m : Nat) : Bool := bif ab k then !A k m else dB ((m : Int) ∈ W k)
structure SI (E : Nat → Nat → Bool) (n r y : Nat) (p : Nat → Bool) (q : List Int) (j : Nat) (s : (Nat → Bool) × List Int) : Prop where
 a1 : ∀ x ∈ s.2, (0 ≤ x ∧ x < n) ∧ s.1 x.toNat = true
 a2 : ∀ k, k < n → p k = true → s.1 k = true
 a3 : ∀ k, k < n → s.1 k = true → Rc E n r k
 a4 : ∀ m, m < j → m < n → E y m = true → s.1 m = true
 a5 : ∀ a : Nat, a < n → s.1 a = true → (a : Int) ∉ s.2 → a ≠ y → ∀ m, m < n → E a m = true → s.1 m = true
 a6 : s.2.length + cntF s.1 n ≤ q.length + cntF p n
 a7 : 2 * cntF s.1 n + s.2.length ≤ 2 * cntF p n + q.length
theorem SI.skip {E : Nat → Nat → Bool} {n r y : Nat} {p : Nat → Bool} {q : List Int} {j : Nat} {s : (Nat → Bool) × List Int} (h : SI E n r y p q j s) (g : E y j = true → s.1 j = true) : SI E n r y p q (j + 1) s :=
 ⟨h.a1, h.a2, h.a3, fun m hm hmn he => by
  by_cases e : m = j
  ·rw [e] at he ⊢; exact g he
  ·exact h.a4 m (by omega) hmn he, h.a5, h.a6, h.a7⟩
theorem SI.put {E : Nat → Nat → Bool} {n r y : Nat} {p : Nat → Bool} {q : List Int} {j : Nat} {p' : Nat → Bool} {q' : List Int} (h : SI E n r y p q j (p', q')) (hj : j < n) (hy : y < n) (hxp : p y = true) (g : E y j = true) (g1 : p' j = false) : SI E n r y p q (j + 1) (fun k => if k = j then true else p' k, q' ++ [(j : Int)]) := by
 have hc := cntF_set g1 hj
 obtain ⟨a1, a2, a3, a4, a5, a6, a7⟩ := h
 simp only at a1 a2 a3 a4 a5 a6 a7
 have hyR := a3 y hy (a2 y hy hxp)
 refine ⟨fun z hz => ?_, fun k hk h => mk_or (a2 k hk h), fun k hk h => ?_, fun m hm hmn he => ?_, fun a ha h1 h2 h3 m hm he => ?_, ?_, ?_⟩
 ·rcases List.mem_append.1 hz with h | h
  ·have := a1 z h; exact ⟨this.1, mk_or this.2⟩
  ·simp only [List.mem_singleton] at h; subst h; exact ⟨by omega, by simp⟩
 ·by_cases hky : k = j
  ·rw [hky]; exact .step hyR hj g
  ·exact a3 k hk (by simpa [hky] using h)
 ·simp only
  split
  ·rfl
  ·exact a4 m (by omega) hmn he
 ·simp only [List.mem_append, List.mem_singleton, not_or] at h2
  have hay : ¬ a = j := fun h => h2.2 (by rw [h])
  simp only
  split
  ·rfl
  ·exact a5 a ha (by simpa [hay] using h1) h2.1 h3 m hm he
 ·simp only [List.length_append, List.length_singleton]; omega
 ·simp only [List.length_append, List.length_singleton]; omega
end Go.Proofs.YthapopegchnhlaaGreat
